/- Texts of this proof, part MB2: what the code does, step by step. They have no conditions. -/
import Derived.Test.YtmagdjlcckgkpaaGreatMB1
import Derived.Laws.Externs
import Derived.Scope
/- The proof kit, fourth part: the rules of the operations on memory, calls, appends. -/
namespace Go.Proofs.YtmagdjlcckgkpaaGreat
open Go.RowKit

/-- What a slice type is: its element type, the cells and bytes of an element, the zero element. -/
structure SlT (P : Program) (t e sz bytes : Nat) (z : Value) : Prop where
  ht : P.underlying t = some (.slice e)
  hi : ∃ i, P.info? e = some i ∧ i.zero = some z ∧ i.size = sz ∧ i.bytes = bytes
  hzs : z.cells.size = sz
  hsz : 0 < sz

theorem SlT.mk' {P : Program} {t e sz bytes : Nat} {z : Value} (ht : P.underlying t = some (.slice e))
    (hi : (P.info? e).map (fun i => (i.zero, i.size, i.bytes)) = some (some z, sz, bytes)) (hzs : z.cells.size = sz) (hsz : 0 < sz) : SlT P t e sz bytes z := by
  refine ⟨ht, ?_, hzs, hsz⟩
  cases h : P.info? e with
  | none => rw [h] at hi; cases hi
  | some i =>
    rw [h] at hi
    simp only [Option.map_some, Option.some.injEq, Prod.mk.injEq] at hi
    exact ⟨i, rfl, hi.1, hi.2.1, hi.2.2⟩

theorem SlT.size {P : Program} {t e sz bytes : Nat} {z : Value} (h : SlT P t e sz bytes z) : (P.info? e).map (·.size) = some sz := by
  obtain ⟨i, hi, _, hs, _⟩ := h.hi
  simp [hi, hs]

/-- A slice that can be read: n elements of sz cells, outside of F. -/
def Rd (w : World) (F : Nat → Prop) (sz : Nat) (v : Value) (n : Nat) (xs : List Value) : Prop :=
  ∃ A c, v = .slice A n c ∧ xs.length = n * sz ∧ n ≤ c ∧ (n = 0 ∨ ∃ b off, A = some ⟨b, off, .none⟩ ∧ ¬ F b ∧ b < w.heap.size ∧ ∀ j u, xs[j]? = some u → w.cell? ⟨b, off + j, .none⟩ = some u)

theorem add_eq (b off k : Nat) : (⟨b, off, .none⟩ : Addr).add k = ⟨b, off + k, .none⟩ := by
  unfold Addr.add; split <;> simp_all

theorem Rd.nil (w : World) (F : Nat → Prop) (sz : Nat) : Rd w F sz (.slice .none 0 0) 0 [] := ⟨.none, 0, rfl, by simp, Nat.le_refl _, .inl rfl⟩

theorem Rd.keep {w w' : World} {F G : Nat → Prop} {sz n : Nat} {v : Value} {xs : List Value} (h : Rd w F sz v n xs) (hk : ∀ b, ¬ F b → b < w.heap.size → ¬ G b ∧ b < w'.heap.size ∧ w'.heap[b]? = w.heap[b]?) : Rd w' G sz v n xs := by
  obtain ⟨A, c, rfl, h1, h2, h3⟩ := h
  refine ⟨A, c, rfl, h1, h2, h3.imp id ?_⟩
  rintro ⟨b, off, rfl, hF, hlt, hc⟩
  obtain ⟨k1, k2, k3⟩ := hk b hF hlt
  exact ⟨b, off, rfl, k1, k2, fun j u hu => (World.cell?_of_block (w := w) k3).trans (hc j u hu)⟩

/-- What could be read at the beginning can be read now, and by a function that is handed H's blocks. -/
theorem Rd.old {w0 w : World} {F0 : Nat → Prop} {H Hc Hr : List Res} {sz n : Nat} {v : Value} {xs : List Value} (h : Rd w0 F0 sz v n xs) (hh : Holds w0 F0 H w) (hp : H.Perm (Hc ++ Hr)) : Rd w (feet Hc) sz v n xs := by
  refine h.keep fun b hF hlt => ⟨?_, Nat.lt_of_lt_of_le hlt hh.1.size, hh.1.block b hlt hF⟩
  rintro ⟨r, hr, hx⟩
  rcases ((hh.2.mem r (hp.mem_iff.2 (List.mem_append_left _ hr))).2 b hx).2 with h | h
  · omega
  · exact hF h
theorem Rd.old0 {w0 w : World} {F0 : Nat → Prop} {H : List Res} {sz n : Nat} {v : Value} {xs : List Value} (h : Rd w0 F0 sz v n xs) (hh : Holds w0 F0 H w) : Rd w Nil sz v n xs :=
  (h.old hh (Hc := []) (Hr := H) (List.Perm.refl _)).keep fun _ _ h => ⟨id, h, rfl⟩
theorem Rd.weak {w : World} {F G : Nat → Prop} {sz n : Nat} {v : Value} {xs : List Value} (h : Rd w F sz v n xs) (hG : ∀ b, G b → F b) : Rd w G sz v n xs :=
  h.keep fun b hb hlt => ⟨fun hg => hb (hG b hg), hlt, rfl⟩

/-- A part of a slice reads as that part. -/
theorem Rd.cut {w : World} {F : Nat → Prop} {sz n c l u : Nat} {A : Option Addr} {xs : List Value} (h : Rd w F sz (.slice A n c) n xs) (hlu : l ≤ u) (hun : u ≤ n) :
    Rd w F sz (.slice (if c = l then A else A.map (·.add (l * sz))) (u - l) (c - l)) (u - l) ((xs.drop (l * sz)).take ((u - l) * sz)) := by
  obtain ⟨A', c', he, h1, h2, h3⟩ := h
  injection he with e1 _ e3
  subst e1; subst e3
  have hlen : (u - l) * sz ≤ n * sz - l * sz := by
    rw [← Nat.sub_mul]
    exact Nat.mul_le_mul_right _ (by omega)
  refine ⟨_, _, rfl, by rw [List.length_take, List.length_drop, h1, Nat.min_eq_left hlen], by omega, ?_⟩
  rcases Nat.eq_zero_or_pos (u - l) with h0 | h0
  · exact .inl h0
  · right
    obtain ⟨b, off, rfl, hF, hlt, hc⟩ := h3.resolve_left (by omega)
    rw [if_neg (by omega)]
    refine ⟨b, off + l * sz, by simp [add_eq], hF, hlt, fun j v hj => ?_⟩
    rw [List.getElem?_take] at hj
    split at hj
    · rw [List.getElem?_drop] at hj
      have := hc _ _ hj
      rwa [show off + (l * sz + j) = off + l * sz + j by omega] at this
    · cases hj

theorem rd_row {w : World} {base e sz n : Nat} {v : Value} {xs : List Value} (h : w.ownsRow base e sz v n xs) : Rd w Nil sz v n xs := by
  rcases h.2 with ⟨rfl, rfl⟩ | ⟨g, cap, cur, rfl, hb, hg, hn, hc, hs, ht⟩
  · have : xs = [] := List.eq_nil_of_length_eq_zero (by simpa using h.1)
    subst this; exact Rd.nil _ _ _
  · refine ⟨_, _, rfl, h.1, hn, .inr ⟨_, _, rfl, id, (Array.getElem?_eq_some_iff.1 hg).1, fun j u hu => ?_⟩⟩
    have := h.cells (g := g) rfl j u hu
    rwa [add_eq] at this

/-- Reading a row that is held, by a function that is handed other resources. -/
theorem Rd.held {w0 w : World} {F0 : Nat → Prop} {H Hc Hr : List Res} {e sz n : Nat} {v : Value} {xs : List Value} (hh : Holds w0 F0 H w) (hp : H.Perm (Hc ++ Hr)) (hr : row v e sz n xs ∈ Hr) : Rd w (feet Hc) sz v n xs := by
  have h2 := hh.2.perm hp
  have hok : w.ownsRow 0 e sz v n xs := (h2.mem _ (List.mem_append_right _ hr)).1
  rcases hok.2 with ⟨rfl, rfl⟩ | ⟨g, cap, cur, rfl, hb, hg, hn, hc, hs, ht⟩
  · have : xs = [] := List.eq_nil_of_length_eq_zero (by simpa using hok.1)
    subst this; exact Rd.nil _ _ _
  · refine ⟨_, _, rfl, hok.1, hn, .inr ⟨_, _, rfl, ?_, (Array.getElem?_eq_some_iff.1 hg).1, fun j u hu => ?_⟩⟩
    · rintro ⟨r, hrc, hx⟩
      exact (Hs.append.1 h2).2.2 r hrc _ hr g hx (by simp [row, Value.ownBlock])
    · have := hok.cells (g := g) rfl j u hu
      rwa [add_eq] at this
theorem Rd.held0 {w0 w : World} {F0 : Nat → Prop} {H : List Res} {e sz n : Nat} {v : Value} {xs : List Value} (hh : Holds w0 F0 H w) {i : Nat} (hi : H[i]? = some (row v e sz n xs)) : Rd w Nil sz v n xs :=
  rd_row (hh.ok hi)
/-- A known block as a slice's source. -/
theorem Rd.blk {w0 w : World} {F0 : Nat → Prop} {H : List Res} {b t sz n : Nat} {cs : List Value} (hh : Holds w0 F0 H w) {i : Nat} (hi : H[i]? = some (blk b cs t)) (hl : cs.length = n * sz) : Rd w Nil sz (.slice (some ⟨b, 0, .none⟩) n n) n cs := by
  have hok : w.heap[b]? = some (.cells cs.toArray t (0, 0)) := hh.ok hi
  refine ⟨_, _, rfl, hl, Nat.le_refl _, .inr ⟨b, 0, rfl, id, (Array.getElem?_eq_some_iff.1 hok).1, fun j u hu => ?_⟩⟩
  rw [cell_of_row w b (0 + j) cs.toArray t (0, 0) hok]
  simpa using hu

theorem run_app {P : Program} {w : World} {t e sz bytes : Nat} {z : Value} (T : SlT P t e sz bytes z) (ty base : Nat) (v : Value) (n : Nat) (xs : List Value) (hown : w.ownsRow base e sz v n xs)
    (x : Value) (m : Nat) (news : List Value) (hr : Rd w Nil sz x m news) (h1 : ∀ u ∈ news, u.oneCell' = true)
    (hbytes : (n + m) * bytes ≤ 140737488355328) (h63 : n + m ≤ 140737488355328) (hbase : base ≤ w.heap.size) :
    ∃ v' w', (Builtin.append_ #[t, t] ty #[v, x]).run P w = .ok v' w' ∧ w'.ownsRow base e sz v' (n + m) (xs ++ news) ∧ w.grownBy w' v.ownBlock ∧
      (v'.ownBlock = v.ownBlock ∨ v'.ownBlock = some w.heap.size) := by
  obtain ⟨i, hi, hz, hs, hb⟩ := T.hi
  obtain ⟨A, c, rfl, hl, hc, hA⟩ := hr
  by_cases hm : m = 0
  · subst hm
    have hn : news = [] := List.eq_nil_of_length_eq_zero (by simpa using hl)
    subst hn
    refine ⟨v, w, ?_, by simpa using hown, ⟨rfl, rfl, rfl, Nat.le_refl _, fun _ _ _ => rfl⟩, .inl rfl⟩
    rcases hown.2 with ⟨rfl, rfl⟩ | ⟨g, cap, cur, rfl, _, _, hnc, _⟩ <;> cases A <;>
      simp [Builtin.append_, run_underlying T.ht, sizeOf, typeInfo, Builtin.lenOf, Builtin.firstCells, loadCells, loadCellsFrom, storeCells, *]
  · obtain ⟨b, off, rfl, _, _, hcell⟩ := hA.resolve_left hm
    obtain ⟨v', w', hrun, h2, h3, _, h5⟩ := run_append_own_at (P := P) w base t ty e i z sz bytes T.ht hi hz hs hb T.hzs T.hsz v n xs hown ⟨b, off, .none⟩ m c news hl
      (fun j u hu => by rw [add_eq]; exact hcell j u hu) h1 (by simp only [maxLen]; omega) hbytes hbase
    exact ⟨v', w', hrun, h2, h3, h5⟩

theorem ownBlock_lt {w w' : World} {e sz n : Nat} {v v' : Value} {xs : List Value} (h' : w'.ownsRow 0 e sz v' n xs) (hat : v'.ownBlock = v.ownBlock ∨ ∀ k, v'.ownBlock = some k → w.heap.size ≤ k) (k : Nat) (hk : v'.ownBlock = some k) :
    v.ownBlock = some k ∨ (w.heap.size ≤ k ∧ k < w'.heap.size) := by
  rcases hat with h | h
  · exact .inl (h ▸ hk)
  · exact .inr ⟨h k hk, (h'.lt k hk).2⟩

section
variable {P : Program} {n : Nat} {w0 : World} {F0 : Nat → Prop} {m : Env} {H H1 H2 : List Res} {w : World} {ty : TypeId}
  {x y c : Operand} {v vx vy : Value} {k : IntKind} {p q r : Int} {t e sz bytes : Nat} {z : Value}

/-! ### Loads -/

theorem isAgg_no {t : TypeId} {d : TypeDesc} (hd : P.underlying t = some d) (hagg : (match d with | .struct _ | .array _ _ => false | _ => true) = true) (w : World) : (isAgg t).run P w = .ok false w := by
  cases d <;> simp_all [isAgg, run_underlying hd]

/-- One cell, read in whatever way. -/
theorem f_load {ad : Addr} {d : TypeDesc} (hx : ev m x = some (.pointer (some ad))) (hd : P.underlying t = some d) (hagg : (match d with | .struct _ | .array _ _ => false | _ => true) = true)
    (hc : ∀ w, Holds w0 F0 H w → w.cell? ad = some v) : Flt P n w0 F0 (.load t x) ty m H v := fun o a w h1 h2 ha hh => by
  have := hc w hh
  simp [execOp, h1, ha.eval hx, Instr.loadAt, Instr.sureAddr, loadVar, isAgg_no hd hagg, this]
/-- A cell of a known block. -/
theorem f_loadb {b off tb : Nat} {cs : List Value} {d : TypeDesc} (i : Nat) (hx : ev m x = some (.pointer (some ⟨b, off, .none⟩))) (hd : P.underlying t = some d) (hagg : (match d with | .struct _ | .array _ _ => false | _ => true) = true)
    (hi : H[i]? = some (blk b cs tb)) (hv : cs[off]? = some v) : Flt P n w0 F0 (.load t x) ty m H v :=
  f_load hx hd hagg fun w hh => by
    have hok : w.heap[b]? = some (.cells cs.toArray tb (0, 0)) := hh.ok hi
    rw [cell_of_row w b off cs.toArray tb (0, 0) hok]
    simpa using hv
/-- A cell of old memory. -/
theorem f_loado {ad : Addr} {d : TypeDesc} (hx : ev m x = some (.pointer (some ad))) (hd : P.underlying t = some d) (hagg : (match d with | .struct _ | .array _ _ => false | _ => true) = true)
    (hc : w0.cell? ad = some v) (hF : ¬ F0 ad.block) : Flt P n w0 F0 (.load t x) ty m H v :=
  f_load hx hd hagg fun _ hh => hh.old hc hF
/-- An element's cell of a row of the call's own. -/
theorem f_loadr {g cap l off : Nat} {xs : List Value} {d : TypeDesc} (i : Nat) (hx : ev m x = some (.pointer (some ⟨g, off, .none⟩))) (hd : P.underlying t = some d) (hagg : (match d with | .struct _ | .array _ _ => false | _ => true) = true)
    (hi : H[i]? = some (row (.slice (some ⟨g, 0, .none⟩) l cap) e sz l xs)) (hv : xs[off]? = some v) : Flt P n w0 F0 (.load t x) ty m H v :=
  f_load hx hd hagg fun w hh => by
    have := (show w.ownsRow 0 e sz (.slice (some ⟨g, 0, .none⟩) l cap) l xs from hh.ok hi).cells (g := g) rfl off v hv
    rw [add_eq] at this
    simpa using this

/-- Several cells: a struct. -/
theorem run_loadCells (w : World) (b : Nat) : ∀ (l : List Value) (off i : Nat) (acc : Array Value), (∀ j u, l[j]? = some u → w.cell? ⟨b, off + (i + j), .none⟩ = some u) →
    (loadCellsFrom ⟨b, off, .none⟩ i l.length acc).run P w = .ok (acc ++ l.toArray) w
  | [], off, i, acc, _ => by simp [loadCellsFrom]
  | u :: l, off, i, acc, h => by
    have h0 := h 0 u rfl
    simp only [Nat.add_zero] at h0
    simp only [List.length_cons, loadCellsFrom, Sem.run_bind, add_eq, run_load, h0, Result.andThen_ok]
    rw [run_loadCells w b l off (i + 1) (acc.push u) (fun j v hv => by have := h (j + 1) v hv; rwa [show i + (j + 1) = i + 1 + j from by omega] at this)]
    simp
theorem f_loads {b off : Nat} {cs : List Value} {d : TypeDesc} (hx : ev m x = some (.pointer (some ⟨b, off, .none⟩))) (hd : P.underlying t = some d) (hagg : (match d with | .struct _ | .array _ _ => true | _ => false) = true)
    (hs : (P.info? t).map (·.size) = some cs.length) (hc : ∀ w, Holds w0 F0 H w → ∀ j u, cs[j]? = some u → w.cell? ⟨b, off + j, .none⟩ = some u) : Flt P n w0 F0 (.load t x) ty m H (.agg cs.toArray) := fun o a w h1 h2 ha hh => by
  obtain ⟨j, hj, hjs⟩ := Option.map_eq_some_iff.1 hs
  have hag : (isAgg t).run P w = .ok true w := by cases d <;> simp_all [isAgg, run_underlying hd]
  have hl := run_loadCells (P := P) w b cs off 0 #[] (fun j u hu => by simpa using hc w hh j u hu)
  simp [execOp, h1, ha.eval hx, Instr.loadAt, Instr.sureAddr, loadVar, hag, sizeOf, typeInfo, hj, hjs, loadCells, hl]
theorem f_loadsb {b off tb : Nat} {cs all : List Value} {d : TypeDesc} (i : Nat) (hx : ev m x = some (.pointer (some ⟨b, off, .none⟩))) (hd : P.underlying t = some d) (hagg : (match d with | .struct _ | .array _ _ => true | _ => false) = true)
    (hs : (P.info? t).map (·.size) = some cs.length) (hi : H[i]? = some (blk b all tb)) (hv : (all.drop off).take cs.length = cs) : Flt P n w0 F0 (.load t x) ty m H (.agg cs.toArray) :=
  f_loads hx hd hagg hs fun w hh j u hu => by
    have hok : w.heap[b]? = some (.cells all.toArray tb (0, 0)) := hh.ok hi
    rw [cell_of_row w b (off + j) all.toArray tb (0, 0) hok]
    have hj : j < cs.length := (List.getElem?_eq_some_iff.1 hu).1
    rw [← hv, List.getElem?_take, if_pos (by omega), List.getElem?_drop] at hu
    simpa using hu
theorem f_loadsr {g cap l off : Nat} {cs xs : List Value} {d : TypeDesc} (i : Nat) (hx : ev m x = some (.pointer (some ⟨g, off, .none⟩))) (hd : P.underlying t = some d) (hagg : (match d with | .struct _ | .array _ _ => true | _ => false) = true)
    (hs : (P.info? t).map (·.size) = some cs.length) (hi : H[i]? = some (row (.slice (some ⟨g, 0, .none⟩) l cap) e sz l xs)) (hv : (xs.drop off).take cs.length = cs) : Flt P n w0 F0 (.load t x) ty m H (.agg cs.toArray) :=
  f_loads hx hd hagg hs fun w hh j u hu => by
    have hj : j < cs.length := (List.getElem?_eq_some_iff.1 hu).1
    rw [← hv, List.getElem?_take, if_pos (by omega), List.getElem?_drop] at hu
    have := (show w.ownsRow 0 e sz (.slice (some ⟨g, 0, .none⟩) l cap) l xs from hh.ok hi).cells (g := g) rfl (off + j) u hu
    rw [add_eq] at this
    simpa using this
theorem f_loadso {b off : Nat} {cs : List Value} {d : TypeDesc} (hx : ev m x = some (.pointer (some ⟨b, off, .none⟩))) (hd : P.underlying t = some d) (hagg : (match d with | .struct _ | .array _ _ => true | _ => false) = true)
    (hs : (P.info? t).map (·.size) = some cs.length) (hc : ∀ j u, cs[j]? = some u → w0.cell? ⟨b, off + j, .none⟩ = some u) (hF : ¬ F0 b) : Flt P n w0 F0 (.load t x) ty m H (.agg cs.toArray) :=
  f_loads hx hd hagg hs fun _ hh j u hu => hh.old (hc j u hu) hF

/-! ### New blocks -/

theorem e_new {op : Op} {cs : List Value} {tb : TypeId} (g : Nat → Value)
    (hrun : ∀ (o : Oper) (a : Act) (w : World), o.op = op → o.type = ty → Fr n m a → Holds w0 F0 H w → (execOp a.eval o).run P w = .ok (.value (g w.heap.size)) (w.alloc (.cells cs.toArray tb))) :
    Eff P n w0 F0 op ty m H w (fun u H' => ∃ b, u = g b ∧ H' = blk b cs tb :: H) := fun o a K Q h1 h2 ha hh hk => by
  unfold Oper.wp
  rw [hrun o a w h1 h2 ha hh, Oper.upon_value]
  exact hk _ _ _ ⟨w.heap.size, rfl, rfl⟩ (hh.alloc cs tb)

theorem e_box {cs : List Value} (hx : ev m x = some v) (hv : v.cells = cs.toArray) : Eff P n w0 F0 (.box t x) ty m H w (fun u H' => ∃ b, u = .pointer (some ⟨b, 0, .none⟩) ∧ H' = blk b cs t :: H) :=
  e_new (fun b => .pointer (some ⟨b, 0, .none⟩)) fun o a w h1 h2 ha hh => by
    simp [execOp, h1, ha.eval hx, Instr.box, newVar, newRow, hv]
theorem e_alloc {cs : List Value} (hz : (P.info? t).map (·.zero) = some (some v)) (hv : v.cells = cs.toArray) : Eff P n w0 F0 (.alloc t) ty m H w (fun u H' => ∃ b, u = .pointer (some ⟨b, 0, .none⟩) ∧ H' = blk b cs t :: H) :=
  e_new (fun b => .pointer (some ⟨b, 0, .none⟩)) fun o a w h1 h2 ha hh => by
    obtain ⟨j, hj, hjs⟩ := Option.map_eq_some_iff.1 hz
    simp [execOp, h1, Instr.alloc, zeroValue, typeInfo, hj, hjs, newVar, newRow, hv]
theorem e_allocs (cs : List Value) (hz : (P.info? t).map (·.zero) = some (some (.agg cs.toArray))) : Eff P n w0 F0 (.alloc t) ty m H w (fun u H' => ∃ b, u = .pointer (some ⟨b, 0, .none⟩) ∧ H' = blk b cs t :: H) := e_alloc hz rfl
theorem e_alloc1 (v : Value) (hz : (P.info? t).map (·.zero) = some (some v)) (hv : v.cells = #[v]) : Eff P n w0 F0 (.alloc t) ty m H w (fun u H' => ∃ b, u = .pointer (some ⟨b, 0, .none⟩) ∧ H' = blk b [v] t :: H) := e_alloc hz hv
/-- A literal slice: parts are the elements' places and values; the cells are given. -/
theorem e_lit {len : Nat} {parts : List (Nat × Operand)} {us : List (Nat × Value)} {cs : List Value} (hp : evps m parts = some us)
    (hb : ∀ w, (Instr.buildSlice t len us.toArray).run P w = .ok (.slice (some ⟨w.heap.size, 0, .none⟩) len len) (w.alloc (.cells cs.toArray e))) :
    Eff P n w0 F0 (.buildSlice t len parts.toArray) ty m H w (fun u H' => ∃ b, u = .slice (some ⟨b, 0, .none⟩) len len ∧ H' = blk b cs e :: H) :=
  e_new (fun b => .slice (some ⟨b, 0, .none⟩) len len) fun o a w h1 h2 ha hh => by
    have e : (parts.toArray.map fun (i, x) => (i, a.eval x)) = us.toArray := by
      apply Array.ext'; simpa using ha.evparts _ hp
    simp only [execOp, h1, e, Sem.run_bind, hb, Result.andThen_ok, Sem.run_pure]
/-- The empty literal: an owned row. -/
theorem row_of_blk {b : Nat} {cs : List Value} {l : Nat} (hl : cs.length = l * sz) (hm : l ≤ maxLen) (hh : Holds w0 F0 (blk b cs e :: H) w) : Holds w0 F0 (row (.slice (some ⟨b, 0, .none⟩) l l) e sz l cs :: H) w := by
  obtain ⟨h1, ⟨hok, hf, hd⟩, h3⟩ := hh
  have hb : w.heap[b]? = some (.cells cs.toArray e (0, 0)) := hok
  refine ⟨h1, ⟨⟨hl, .inr ⟨b, l, cs.toArray, rfl, Nat.zero_le _, hb, Nat.le_refl _, hm, by simpa using hl, by simp [← hl]⟩⟩, ?_, ?_⟩, h3⟩
  · intro k hk
    exact hf k (by simpa [row, Value.ownBlock, blk, eq_comm] using hk)
  · intro s hs k hk
    exact hd s hs k (by simpa [row, Value.ownBlock, blk, eq_comm] using hk)
theorem e_litrow {len : Nat} {parts : List (Nat × Operand)} {us : List (Nat × Value)} {cs : List Value} (hp : evps m parts = some us)
    (hb : ∀ w, (Instr.buildSlice t len us.toArray).run P w = .ok (.slice (some ⟨w.heap.size, 0, .none⟩) len len) (w.alloc (.cells cs.toArray e))) (hl : cs.length = len * sz) (hm : len ≤ maxLen) :
    Eff P n w0 F0 (.buildSlice t len parts.toArray) ty m H w (fun u H' => ∃ b, u = .slice (some ⟨b, 0, .none⟩) len len ∧ H' = row (.slice (some ⟨b, 0, .none⟩) len len) e sz len cs :: H) :=
  fun o a K Q h1 h2 ha hh hk => e_lit hp hb o a K Q h1 h2 ha hh fun v _ w' ⟨b, hv, hH⟩ hh' => hk v _ w' ⟨b, hv, rfl⟩ (row_of_blk hl hm (hH ▸ hh'))
theorem run_lit0 (T : SlT P t e sz bytes z) (w : World) : (Instr.buildSlice t 0 #[]).run P w = .ok (.slice (some ⟨w.heap.size, 0, .none⟩) 0 0) (w.alloc (.cells #[] e)) := by
  obtain ⟨i, hi, hz, hs, hb⟩ := T.hi
  simp [Instr.buildSlice, run_underlying T.ht, sizeOf, typeInfo, hi, newRow, Instr.fill, Array.range_zero']
theorem run_lit1 (T : SlT P t e sz bytes z) (hv : v.cells.size = sz) (hsz : sz ≤ 65536) (w : World) :
    (Instr.buildSlice t 1 #[(0, v)]).run P w = .ok (.slice (some ⟨w.heap.size, 0, .none⟩) 1 1) (w.alloc (.cells v.cells e)) := by
  obtain ⟨i, hi, hz, hs, hb⟩ := T.hi
  have h0 := T.hsz
  have hbig : ¬ 16777216 < i.size := by omega
  have hcells : ∀ (l : List Value) (k : Nat) (acc : Array Value), k + l.length ≤ acc.size →
      (l.zipIdx k).foldl (fun cs (x : Value × Nat) => cs.setIfInBounds (0 + x.2) x.1) acc = (acc.toList.take k ++ l ++ acc.toList.drop (k + l.length)).toArray := by
    intro l
    induction l with
    | nil => intro k acc _; apply Array.ext'; simp
    | cons u l ih =>
      intro k acc hk
      simp only [List.zipIdx_cons, List.foldl_cons, Nat.zero_add]
      simp only [List.length_cons] at hk
      have := ih (k + 1) (acc.setIfInBounds k u) (by simp only [Array.size_setIfInBounds]; omega)
      simp only [Nat.zero_add] at this
      rw [this]
      apply Array.ext'
      simp only [Array.toList_setIfInBounds, List.length_cons]
      have hk' : k < acc.toList.length := by simp only [Array.length_toList]; omega
      rw [List.take_succ_eq_append_getElem (by simpa using hk'), List.take_set_of_le (Nat.le_refl _), List.drop_set_of_lt (by omega), List.getElem_set_self, show k + 1 + l.length = k + (l.length + 1) from by omega]
      simp
  have key : (v.cells.zipIdx.foldl (fun cs (x : Value × Nat) => cs.setIfInBounds (0 + x.2) x.1) ((Array.range (1 * i.size)).map (z.cells[· % z.cells.size]!))) = v.cells := by
    have h := hcells v.cells.toList 0 ((Array.range (1 * i.size)).map (z.cells[· % z.cells.size]!)) (by simp only [Array.length_toList, Array.size_map, Array.size_range]; omega)
    rw [← Array.foldl_toList, Array.toList_zipIdx, h]
    apply Array.ext'
    simp only [List.take_zero, List.nil_append]
    rw [List.drop_of_length_le (by simp; omega)]
    simp
  simp only [Nat.one_mul] at key
  simp [Instr.buildSlice, run_underlying T.ht, sizeOf, typeInfo, hi, newRow, Instr.fill, zeroValue, hz, hv, hs]
  rw [if_neg (by omega), if_neg (by omega)]
  simp only [Nat.zero_add, Array.size_zipIdx, hv, hs] at key
  rw [key]
/-- The empty literal, and the literal of one element. -/
theorem e_lit0 (T : SlT P t e sz bytes z) : Eff P n w0 F0 (.buildSlice t 0 #[]) ty m H w (fun u H' => ∃ b, u = .slice (some ⟨b, 0, .none⟩) 0 0 ∧ H' = row (.slice (some ⟨b, 0, .none⟩) 0 0) e sz 0 [] :: H) :=
  e_litrow (parts := []) (us := []) (cs := []) rfl (fun w => run_lit0 T w) (by simp) (by simp only [maxLen]; omega)
theorem e_lit1 {cs : List Value} (T : SlT P t e sz bytes z) (hx : ev m x = some v) (hv : v.cells = cs.toArray) (hl : cs.length = sz) (hsz : sz ≤ 65536) :
    Eff P n w0 F0 (.buildSlice t 1 #[(0, x)]) ty m H w (fun u H' => ∃ b, u = .slice (some ⟨b, 0, .none⟩) 1 1 ∧ H' = row (.slice (some ⟨b, 0, .none⟩) 1 1) e sz 1 cs :: H) :=
  e_litrow (parts := [(0, x)]) (us := [(0, v)]) (cs := cs) (by simp [evps, hx]) (fun w => by rw [← hv]; exact run_lit1 T (by simp [hv, hl]) hsz w) (by omega) (by simp only [maxLen]; omega)
/-- nil is a row. -/
theorem Holds.nilrow (h : Holds w0 F0 H w) (e sz : Nat) : Holds w0 F0 (row (.slice .none 0 0) e sz 0 [] :: H) w :=
  ⟨h.1, ⟨World.ownsRow_nil w 0 e sz, by intro k hk; simp [row, Value.ownBlock] at hk, by intro s hs k hk; simp [row, Value.ownBlock] at hk⟩, h.2⟩
theorem wl_nilrow {ops : Array Oper} {l : List Oper} {N : Cond} (e sz : Nat) (h : WL P n w0 F0 ops N l m (row (.slice .none 0 0) e sz 0 [] :: H) w) : WL P n w0 F0 ops N l m H w := fun a ha hh => h a ha (hh.nilrow e sz)
theorem w_nilrow {c : Code} {N R : Cond} {X : Nat → Cond} (e sz : Nat) (h : W P n w0 F0 c N R X m (row (.slice .none 0 0) e sz 0 [] :: H) w) : W P n w0 F0 c N R X m H w := fun a ha hh => h a ha (hh.nilrow e sz)
theorem e_make {cs : List Value} {l : Nat} (hx : ev m x = some (.int .i64 l)) (hy : ev m y = some (.int .i64 l)) (T : SlT P t e sz bytes z) (hb : bytes * l ≤ 281474976710656) (h63 : l ≤ 281474976710656) (hcs : cs = (madeCells z.cells (l * sz)).toList) :
    Eff P n w0 F0 (.makeSlice t x y) ty m H w (fun u H' => ∃ b, u = .slice (some ⟨b, 0, .none⟩) l l ∧ H' = row (.slice (some ⟨b, 0, .none⟩) l l) e sz l cs :: H) := fun o a K Q h1 h2 ha hh hk => by
  obtain ⟨i, hi, hz, hs, hby⟩ := T.hi
  have hb' : (i.bytes : Int) * (l : Int) ≤ 281474976710656 := by
    have h : ((i.bytes * l : Nat) : Int) ≤ 281474976710656 := by rw [hby]; omega
    rwa [Int.natCast_mul] at h
  have hr := run_make (P := P) w t e i z T.ht hi hz .i64 .i64 (l : Int) (l : Int) (by omega) (by omega) hb' (by omega)
  simp only [Int.toNat_natCast] at hr
  have hm : l ≤ maxLen := by simp only [maxLen]; omega
  have hlen : cs.length = l * sz := by rw [hcs, Array.length_toList]; simp only [madeCells, Array.size_map, Array.size_range]
  unfold Oper.wp
  have : (execOp a.eval o).run P w = .ok (.value (.slice (some ⟨w.heap.size, 0, .none⟩) l l)) (w.alloc (.cells cs.toArray e)) := by
    simp only [execOp, h1, ha.eval hx, ha.eval hy, Sem.run_bind, hr, Result.andThen_ok, Sem.run_pure, hcs, hs]
  rw [this, Oper.upon_value]
  exact hk _ _ _ ⟨_, rfl, rfl⟩ (row_of_blk hlen hm (hh.alloc cs e))

/-! ### Bytes to a string; a result that lies in memory -/

/-- The string of bytes. -/
def str (xs : List Nat) : ByteArray := ⟨(xs.map UInt8.ofNat).toArray⟩

theorem run_b2s {w : World} {xv : Value} {xs : List Nat} (hr : Rd w Nil 1 xv xs.length (xs.map fun b : Nat => Value.int .u8 (b : Int))) : (Conv.bytesToString xv).run P w = .ok (.string (str xs)) w := by
  obtain ⟨A, c, rfl, hl, hc, hA⟩ := hr
  cases A with
  | none =>
    have : xs = [] := by
      rcases hA with h | ⟨b, off, h, _⟩
      · exact List.eq_nil_of_length_eq_zero h
      · cases h
    subst this; rfl
  | some ad =>
    have hload : (loadCells ad xs.length).run P w = .ok ((xs.map fun b : Nat => (b : Int)).map (Value.int .u8)).toArray w := by
      rcases hA with h | ⟨b, off, h, _, _, hcell⟩
      · have : xs = [] := List.eq_nil_of_length_eq_zero h
        subst this; rfl
      · injection h with h; subst h
        have := run_loadCells (P := P) w b (xs.map fun b : Nat => Value.int .u8 (b : Int)) off 0 #[] (fun j u hu => by simpa using hcell j u hu)
        simp only [List.length_map] at this
        unfold loadCells
        rw [this]
        simp [Function.comp_def]
    rw [run_bytesToString w ad xs.length c _ hload]
    congr 2
    have key : ∀ (l : List Nat) (acc : ByteArray), (l.map fun b : Nat => (b : Int)).foldl (fun r n => r.push (UInt8.ofNat n.toNat)) acc = ⟨(acc.data.toList ++ l.map UInt8.ofNat).toArray⟩ := by
      intro l
      induction l with
      | nil => intro acc; simp
      | cons b l ih =>
        intro acc
        simp only [List.map_cons, List.foldl_cons, Int.toNat_natCast]
        rw [ih]
        simp [ByteArray.push]
    rw [key]
    simp [str]

theorem f_b2s {src dst e : TypeId} {xv : Value} {xs : List Nat} (hx : ev m x = some xv) (hs : P.underlying src = some (.slice e)) (he : P.underlying e = some (.int .u8)) (hd : P.underlying dst = some .string)
    (hr : ∀ w, Holds w0 F0 H w → Rd w Nil 1 xv xs.length (xs.map fun b : Nat => Value.int .u8 (b : Int))) : Flt P n w0 F0 (.convert src dst x) ty m H (.string (str xs)) := fun o a w h1 h2 ha hh => by
  have h := run_b2s (P := P) (hr w hh)
  obtain ⟨A, c, rfl, _⟩ := hr w hh
  simp [execOp, h1, ha.eval hx, convert, run_underlying hs, run_underlying hd, run_underlying he, h]

theorem results_cell {fn : Func} {s b tb t : Nat} {cs : List Value} {d : TypeDesc} (i : Nat) (hl : fn.results = #[.cell s t]) (hv : lk m s = some (.pointer (some ⟨b, 0, .none⟩))) (a : Act) (ha : Fr n m a) (hh : Holds w0 F0 H w)
    (hd : P.underlying t = some d) (hagg : (match d with | .struct _ | .array _ _ => true | _ => false) = true) (hsz : (P.info? t).map (·.size) = some cs.length) (hi : H[i]? = some (blk b cs tb)) :
    (results fn a.tmps).run P w = .ok (.agg cs.toArray) w := by
  obtain ⟨j, hj, hjs⟩ := Option.map_eq_some_iff.1 hsz
  have hag : (isAgg t).run P w = .ok true w := by cases d <;> simp_all [isAgg, run_underlying hd]
  have hok : w.heap[b]? = some (.cells cs.toArray tb (0, 0)) := hh.ok hi
  have hlc := run_loadCells (P := P) w b cs 0 0 #[] (fun j u hu => by rw [cell_of_row w b _ cs.toArray tb (0, 0) hok]; simpa using hu)
  have hg := ha.get s _ hv
  have hload : (loadVar t ⟨b, 0, .none⟩).run P w = .ok (.agg cs.toArray) w := by
    simp [loadVar, hag, sizeOf, typeInfo, hj, hjs, loadCells, hlc]
  simp [results, hl, hg, asAddr, hload]

/-! ### Stores -/

theorem run_storeCells' (w : World) (b tb : Nat) (cs : List Value) (hb : w.heap[b]? = some (.cells cs.toArray tb (0, 0))) (off : Nat) (us : List Value) (hl : off + us.length ≤ cs.length) (h1 : ∀ u ∈ us, u.oneCell' = true) :
    ∃ w', (storeCells ⟨b, off, .none⟩ us).run P w = .ok () w' ∧ w'.heap[b]? = some (.cells (cs.take off ++ us ++ cs.drop (off + us.length)).toArray tb (0, 0)) ∧ w.grownBy w' (some b) := by
  have := run_storeCells_at P b off tb us 0 cs.toArray w hb (by simpa using hl) h1
  simp only [Nat.add_zero] at this
  refine ⟨_, this, ?_, ?_⟩
  · rw [setRow_heap w b cs.toArray _ tb _ hb]
  · exact ⟨rfl, rfl, rfl, by simp, fun k _ hk => setRow_other w b k _ (fun e => hk (by simp [e]))⟩

theorem frm_of_grown {w w' : World} {row : Option Nat} {F : Nat → Prop} (h : w.grownBy w' row) (hF : ∀ k, row = some k → F k) : Frm F w w' :=
  ⟨h.os, h.tape, h.output, h.size, fun k hk hn => h.block k hk fun e => hn (hF k e.symm)⟩

theorem splice_take {α : Type} (cur us : List α) (off N : Nat) (h : off + us.length ≤ N) (hN : N ≤ cur.length) :
    (cur.take off ++ us ++ cur.drop (off + us.length)).take N = (cur.take N).take off ++ us ++ (cur.take N).drop (off + us.length) := by
  have hl : (cur.take off ++ us).length = off + us.length := by simp only [List.length_append, List.length_take]; omega
  rw [List.take_append, hl, List.take_of_length_le (by omega), List.take_take, Nat.min_eq_left (by omega), List.drop_take]

/-- A store into a known block. -/
theorem e_store {b off tb : Nat} {cs cs' us : List Value} (H1 H2 : List Res) (hx : ev m x = some (.pointer (some ⟨b, off, .none⟩))) (hy : ev m y = some v) (hv : v.cells = us.toArray) (hs : (P.info? t).map (·.size) = some us.length)
    (h1 : ∀ u ∈ us, u.oneCell' = true) (hl : off + us.length ≤ cs.length) (hcs : cs.take off ++ us ++ cs.drop (off + us.length) = cs') (hH : H = H1 ++ blk b cs tb :: H2) :
    Eff P n w0 F0 (.store t x y) ty m H w (fun _ H' => H' = H1 ++ blk b cs' tb :: H2) := fun o a K Q ho1 ho2 ha hh hk => by
  subst hH
  obtain ⟨j, hj, hjs⟩ := Option.map_eq_some_iff.1 hs
  have hok : w.heap[b]? = some (.cells cs.toArray tb (0, 0)) := (hh.2.mem (blk b cs tb) (by simp)).1
  obtain ⟨w', hrun, hb', hg⟩ := run_storeCells' (P := P) w b tb cs hok off us hl h1
  have hsz : us.length = j.size := hjs.symm
  unfold Oper.wp
  have : (execOp a.eval o).run P w = .ok .skip w' := by
    simp [execOp, ho1, ha.eval hx, ha.eval hy, Instr.storeAt, Instr.sureAddr, storeVar, hv, sizeOf, typeInfo, hj, hsz, hrun]
  rw [this, Oper.upon_skip]
  refine hk undef _ w' rfl (hh.change (r' := blk b cs' tb) (frm_of_grown hg (by rintro k h; injection h with h; exact h.symm)) ?_ (fun k hk => .inl hk))
  show w'.heap[b]? = some (.cells cs'.toArray tb (0, 0))
  rw [hb', hcs]
/-- A store into a row of the call's own. -/
theorem e_storer {g cap l off : Nat} {xs xs' us : List Value} (H1 H2 : List Res) (hx : ev m x = some (.pointer (some ⟨g, off, .none⟩))) (hy : ev m y = some v) (hv : v.cells = us.toArray) (hs : (P.info? t).map (·.size) = some us.length)
    (h1 : ∀ u ∈ us, u.oneCell' = true) (hl : off + us.length ≤ xs.length) (hcs : xs.take off ++ us ++ xs.drop (off + us.length) = xs') (hH : H = H1 ++ row (.slice (some ⟨g, 0, .none⟩) l cap) e sz l xs :: H2) :
    Eff P n w0 F0 (.store t x y) ty m H w (fun _ H' => H' = H1 ++ row (.slice (some ⟨g, 0, .none⟩) l cap) e sz l xs' :: H2) := fun o a K Q ho1 ho2 ha hh hk => by
  subst hH
  obtain ⟨j, hj, hjs⟩ := Option.map_eq_some_iff.1 hs
  have hok : w.ownsRow 0 e sz (.slice (some ⟨g, 0, .none⟩) l cap) l xs := (hh.2.mem (row (.slice (some ⟨g, 0, .none⟩) l cap) e sz l xs) (by simp)).1
  rcases hok.2 with ⟨h, _⟩ | ⟨g', cap', cur, h, _, hg, hnc, hcm, hcsz, htake⟩
  · cases h
  injection h with hga _ hcap
  injection hga with hga
  injection hga with hga _ _
  subst hga; subst hcap
  have hlen := hok.1
  have hcur : w.heap[g]? = some (.cells cur.toList.toArray e (0, 0)) := by simpa using hg
  have hle' : off + us.length ≤ cur.size := by
    have := Nat.mul_le_mul_right sz hnc
    omega
  have hle : off + us.length ≤ cur.toList.length := by simpa using hle'
  obtain ⟨w', hrun, hb', hgr⟩ := run_storeCells' (P := P) w g e cur.toList hcur off us hle h1
  have hsz : us.length = j.size := hjs.symm
  unfold Oper.wp
  have : (execOp a.eval o).run P w = .ok .skip w' := by
    simp [execOp, ho1, ha.eval hx, ha.eval hy, Instr.storeAt, Instr.sureAddr, storeVar, hv, sizeOf, typeInfo, hj, hsz, hrun]
  rw [this, Oper.upon_skip]
  refine hk undef _ w' rfl (hh.change (r' := row (.slice (some ⟨g, 0, .none⟩) l cap) e sz l xs') (frm_of_grown hgr (by rintro k h; simp only [row, Value.ownBlock]; exact h)) ?_ (fun k hk => .inl hk))
  have hl' : xs'.length = l * sz := by
    rw [← hcs]; simp only [List.length_append, List.length_take, List.length_drop]; omega
  refine ⟨hl', .inr ⟨g, cap, _, rfl, Nat.zero_le _, hb', hnc, hcm, ?_, ?_⟩⟩
  · have e : (cur.toList.take off ++ us ++ cur.toList.drop (off + us.length)).length = cur.size := by
      simp only [List.length_append, List.length_take, List.length_drop, Array.length_toList]; omega
    rw [List.size_toArray, e, hcsz]
  · rw [splice_take cur.toList us off (l * sz) (by omega) (by simp only [Array.length_toList, hcsz]; exact Nat.mul_le_mul_right sz hnc), htake, hcs]

/-! ### append -/

theorem e_app {l c : Nat} {xs news : List Value} {xv : Value} (H1 H2 : List Res) (T : SlT P t e sz bytes z) (hx : ev m x = some v) (hy : ev m y = some xv)
    (hH : H = H1 ++ row v e sz l xs :: H2) (hr : ∀ w, Holds w0 F0 H w → Rd w Nil sz xv c news) (h1 : ∀ u ∈ news, u.oneCell' = true)
    (hbytes : (l + c) * bytes ≤ 140737488355328) (h63 : l + c ≤ 140737488355328) :
    Eff P n w0 F0 (.call { callee := .builtin .append, args := #[x, y], argTypes := #[t, t] }) ty m H w (fun u H' => H' = H1 ++ row u e sz (l + c) (xs ++ news) :: H2) := fun o a K Q ho1 ho2 ha hh hk => by
  subst hH
  have hok : w.ownsRow 0 e sz v l xs := (hh.2.mem (row v e sz l xs) (by simp)).1
  obtain ⟨v', w', hrun, h2, h3, h4⟩ := run_app T o.type 0 v l xs hok xv c news (hr w hh) h1 hbytes h63 (Nat.zero_le _)
  unfold Oper.wp
  have : (execOp a.eval o).run P w = .ok (.value v') w' := by
    simp only [execOp, ho1, resolve, invoke, builtin, Sem.run_bind, Sem.run_pure, Result.andThen_ok, List.map_toArray, List.map_cons, List.map_nil, ha.eval hx, ha.eval hy, hrun]
  rw [this, Oper.upon_value]
  exact hk v' _ w' rfl (hh.change (r' := row v' e sz (l + c) (xs ++ news)) (frm_of_grown h3 (fun k h => h)) h2 (fun k hk => ownBlock_lt h2 (h4.imp id fun h k hk => by rw [h] at hk; injection hk with hk; omega) k hk))

/-! strings -/
theorem run_app_str {w : World} {u : TypeId} (T : SlT P t e 1 1 (.int .u8 0)) (hu : P.underlying u = some .string) (ty : TypeId) (v : Value) (l : Nat) (xs : List Value) (hown : w.ownsRow 0 e 1 v l xs) (s : ByteArray)
    (h63 : l + s.size ≤ 140737488355328) :
    ∃ v' w', (Builtin.append_ #[t, u] ty #[v, .string s]).run P w = .ok v' w' ∧ w'.ownsRow 0 e 1 v' (l + s.size) (xs ++ Lib.strCells s) ∧ w.grownBy w' v.ownBlock ∧
      (v'.ownBlock = v.ownBlock ∨ ∀ k, v'.ownBlock = some k → w.heap.size ≤ k) := by
  obtain ⟨i, hi, hz, hs, hby⟩ := T.hi
  obtain ⟨v', w', h1, h2, h3, _⟩ := Lib.run_append_own_string (P := P) w 0 t u ty e i T.ht hu hi hz hs hby v l xs hown s (by simp only [maxLen]; omega) (by omega) (Nat.zero_le _)
  refine ⟨v', w', h1, h2, h3, ?_⟩
  rcases hown.2 with ⟨rfl, rfl⟩ | ⟨g, cap, cur, rfl, hbg, hg, hnc, hcm, hcs, htake⟩
  · have hx : xs = [] := List.eq_nil_of_length_eq_zero (by simpa using hown.1)
    subst hx
    obtain ⟨v2, w2, g1, g2, g3, _⟩ := Lib.run_append_own_string (P := P) w w.heap.size t u ty e i T.ht hu hi hz hs hby (.slice .none 0 0) 0 [] (World.ownsRow_nil w _ e 1) s (by simp only [maxLen]; omega) (by omega) (Nat.le_refl _)
    rw [h1] at g1
    injection g1 with g1 g1'
    subst g1; subst g1'
    exact .inr fun k hk => (g2.lt k hk).1
  · by_cases hroom : l + s.size ≤ cap
    · have hcs' : cur.size = cap := by simpa using hcs
      have hr := Lib.run_append_room_string (P := P) w t u ty e i T.ht hu hi hs g l cap cur hg s hroom (by omega)
      rw [h1] at hr
      injection hr with hr _
      subst hr
      exact .inl rfl
    · have hxl : xs.length = l := by simpa using hown.1
      have holds : ∀ j u, xs[j]? = some u → w.cell? ((⟨g, 0, .none⟩ : Addr).add j) = some u := hown.cells (g := g) rfl
      have hr := Lib.run_append_grow_string (P := P) w t u ty e i (.int .u8 0) T.ht hu hi hz ⟨g, 0, .none⟩ l cap xs (by rw [hs]; simpa using hxl) holds s (by omega) (by omega) (by rw [hby]; exact growslice_fits (by omega) (by omega))
      rw [h1] at hr
      injection hr with hr _
      subst hr
      exact .inr fun k hk => by simp only [Value.ownBlock, Option.some.injEq] at hk; omega

theorem e_apps {l : Nat} {u : TypeId} {xs : List Value} {s : ByteArray} (H1 H2 : List Res) (T : SlT P t e 1 1 (.int .u8 0)) (hu : P.underlying u = some .string) (hx : ev m x = some v) (hy : ev m y = some (.string s))
    (hH : H = H1 ++ row v e 1 l xs :: H2) (h63 : l + s.size ≤ 140737488355328) :
    Eff P n w0 F0 (.call { callee := .builtin .append, args := #[x, y], argTypes := #[t, u] }) ty m H w (fun r H' => H' = H1 ++ row r e 1 (l + s.size) (xs ++ Lib.strCells s) :: H2) := fun o a K Q ho1 ho2 ha hh hk => by
  subst hH
  have hok : w.ownsRow 0 e 1 v l xs := (hh.2.mem (row v e 1 l xs) (by simp)).1
  obtain ⟨v', w', hrun, h2, h3, h4⟩ := run_app_str T hu o.type v l xs hok s h63
  unfold Oper.wp
  have : (execOp a.eval o).run P w = .ok (.value v') w' := by
    simp only [execOp, ho1, resolve, invoke, builtin, Sem.run_bind, Sem.run_pure, Result.andThen_ok, List.map_toArray, List.map_cons, List.map_nil, ha.eval hx, ha.eval hy, hrun]
  rw [this, Oper.upon_value]
  exact hk v' _ w' rfl (hh.change (r' := row v' e 1 (l + s.size) (xs ++ Lib.strCells s)) (frm_of_grown h3 (fun k h => h)) h2 (fun k hk => ownBlock_lt h2 h4 k hk))


/-! ### The same, by the place of the resource -/
theorem e_app0 {l c : Nat} {xs news : List Value} {xv : Value} (T : SlT P t e sz bytes z) (hx : ev m x = some v) (hy : ev m y = some xv)
    (hr : ∀ w, Holds w0 F0 (row v e sz l xs :: H) w → Rd w Nil sz xv c news) (h1 : ∀ u ∈ news, u.oneCell' = true)
    (hbytes : (l + c) * bytes ≤ 140737488355328) (h63 : l + c ≤ 140737488355328) :
    Eff P n w0 F0 (.call { callee := .builtin .append, args := #[x, y], argTypes := #[t, t] }) ty m (row v e sz l xs :: H) w (fun u H' => H' = row u e sz (l + c) (xs ++ news) :: H) :=
  e_app [] H T hx hy rfl hr h1 hbytes h63
theorem e_apps0 {l : Nat} {u : TypeId} {xs : List Value} {s : ByteArray} (T : SlT P t e 1 1 (.int .u8 0)) (hu : P.underlying u = some .string) (hx : ev m x = some v) (hy : ev m y = some (.string s))
    (h63 : l + s.size ≤ 140737488355328) :
    Eff P n w0 F0 (.call { callee := .builtin .append, args := #[x, y], argTypes := #[t, u] }) ty m (row v e 1 l xs :: H) w (fun r H' => H' = row r e 1 (l + s.size) (xs ++ Lib.strCells s) :: H) :=
  e_apps [] H T hu hx hy rfl h63
theorem e_store0 {bb off tb : Nat} {cs cs' us : List Value} (hx : ev m x = some (.pointer (some ⟨bb, off, .none⟩))) (hy : ev m y = some v) (hv : v.cells = us.toArray) (hs : (P.info? t).map (·.size) = some us.length)
    (h1 : ∀ u ∈ us, u.oneCell' = true) (hl : Nat.ble (off + us.length) cs.length = true) (hcs : cs.take off ++ us ++ cs.drop (off + us.length) = cs') :
    Eff P n w0 F0 (.store t x y) ty m (blk bb cs tb :: H) w (fun _ H' => H' = blk bb cs' tb :: H) :=
  e_store [] H hx hy hv hs h1 (Nat.le_of_ble_eq_true hl) hcs rfl
theorem e_storer0 {g cap l off : Nat} {xs xs' us : List Value} (hx : ev m x = some (.pointer (some ⟨g, off, .none⟩))) (hy : ev m y = some v) (hv : v.cells = us.toArray) (hs : (P.info? t).map (·.size) = some us.length)
    (h1 : ∀ u ∈ us, u.oneCell' = true) (hl : off + us.length ≤ xs.length) (hcs : xs.take off ++ us ++ xs.drop (off + us.length) = xs') :
    Eff P n w0 F0 (.store t x y) ty m (row (.slice (some ⟨g, 0, .none⟩) l cap) e sz l xs :: H) w (fun _ H' => H' = row (.slice (some ⟨g, 0, .none⟩) l cap) e sz l xs' :: H) :=
  e_storer [] H hx hy hv hs h1 hl hcs rfl
theorem e_app1 {a1 : Res} {l c : Nat} {xs news : List Value} {xv : Value} (T : SlT P t e sz bytes z) (hx : ev m x = some v) (hy : ev m y = some xv)
    (hr : ∀ w, Holds w0 F0 (a1 :: row v e sz l xs :: H) w → Rd w Nil sz xv c news) (h1 : ∀ u ∈ news, u.oneCell' = true)
    (hbytes : (l + c) * bytes ≤ 140737488355328) (h63 : l + c ≤ 140737488355328) :
    Eff P n w0 F0 (.call { callee := .builtin .append, args := #[x, y], argTypes := #[t, t] }) ty m (a1 :: row v e sz l xs :: H) w (fun u H' => H' = a1 :: row u e sz (l + c) (xs ++ news) :: H) :=
  e_app [a1] H T hx hy rfl hr h1 hbytes h63
theorem e_apps1 {a1 : Res} {l : Nat} {u : TypeId} {xs : List Value} {s : ByteArray} (T : SlT P t e 1 1 (.int .u8 0)) (hu : P.underlying u = some .string) (hx : ev m x = some v) (hy : ev m y = some (.string s))
    (h63 : l + s.size ≤ 140737488355328) :
    Eff P n w0 F0 (.call { callee := .builtin .append, args := #[x, y], argTypes := #[t, u] }) ty m (a1 :: row v e 1 l xs :: H) w (fun r H' => H' = a1 :: row r e 1 (l + s.size) (xs ++ Lib.strCells s) :: H) :=
  e_apps [a1] H T hu hx hy rfl h63
theorem e_store1 {a1 : Res} {bb off tb : Nat} {cs cs' us : List Value} (hx : ev m x = some (.pointer (some ⟨bb, off, .none⟩))) (hy : ev m y = some v) (hv : v.cells = us.toArray) (hs : (P.info? t).map (·.size) = some us.length)
    (h1 : ∀ u ∈ us, u.oneCell' = true) (hl : Nat.ble (off + us.length) cs.length = true) (hcs : cs.take off ++ us ++ cs.drop (off + us.length) = cs') :
    Eff P n w0 F0 (.store t x y) ty m (a1 :: blk bb cs tb :: H) w (fun _ H' => H' = a1 :: blk bb cs' tb :: H) :=
  e_store [a1] H hx hy hv hs h1 (Nat.le_of_ble_eq_true hl) hcs rfl
theorem e_storer1 {a1 : Res} {g cap l off : Nat} {xs xs' us : List Value} (hx : ev m x = some (.pointer (some ⟨g, off, .none⟩))) (hy : ev m y = some v) (hv : v.cells = us.toArray) (hs : (P.info? t).map (·.size) = some us.length)
    (h1 : ∀ u ∈ us, u.oneCell' = true) (hl : off + us.length ≤ xs.length) (hcs : xs.take off ++ us ++ xs.drop (off + us.length) = xs') :
    Eff P n w0 F0 (.store t x y) ty m (a1 :: row (.slice (some ⟨g, 0, .none⟩) l cap) e sz l xs :: H) w (fun _ H' => H' = a1 :: row (.slice (some ⟨g, 0, .none⟩) l cap) e sz l xs' :: H) :=
  e_storer [a1] H hx hy hv hs h1 hl hcs rfl
theorem e_app2 {a1 a2 : Res} {l c : Nat} {xs news : List Value} {xv : Value} (T : SlT P t e sz bytes z) (hx : ev m x = some v) (hy : ev m y = some xv)
    (hr : ∀ w, Holds w0 F0 (a1 :: a2 :: row v e sz l xs :: H) w → Rd w Nil sz xv c news) (h1 : ∀ u ∈ news, u.oneCell' = true)
    (hbytes : (l + c) * bytes ≤ 140737488355328) (h63 : l + c ≤ 140737488355328) :
    Eff P n w0 F0 (.call { callee := .builtin .append, args := #[x, y], argTypes := #[t, t] }) ty m (a1 :: a2 :: row v e sz l xs :: H) w (fun u H' => H' = a1 :: a2 :: row u e sz (l + c) (xs ++ news) :: H) :=
  e_app [a1, a2] H T hx hy rfl hr h1 hbytes h63
theorem e_apps2 {a1 a2 : Res} {l : Nat} {u : TypeId} {xs : List Value} {s : ByteArray} (T : SlT P t e 1 1 (.int .u8 0)) (hu : P.underlying u = some .string) (hx : ev m x = some v) (hy : ev m y = some (.string s))
    (h63 : l + s.size ≤ 140737488355328) :
    Eff P n w0 F0 (.call { callee := .builtin .append, args := #[x, y], argTypes := #[t, u] }) ty m (a1 :: a2 :: row v e 1 l xs :: H) w (fun r H' => H' = a1 :: a2 :: row r e 1 (l + s.size) (xs ++ Lib.strCells s) :: H) :=
  e_apps [a1, a2] H T hu hx hy rfl h63
theorem e_store2 {a1 a2 : Res} {bb off tb : Nat} {cs cs' us : List Value} (hx : ev m x = some (.pointer (some ⟨bb, off, .none⟩))) (hy : ev m y = some v) (hv : v.cells = us.toArray) (hs : (P.info? t).map (·.size) = some us.length)
    (h1 : ∀ u ∈ us, u.oneCell' = true) (hl : Nat.ble (off + us.length) cs.length = true) (hcs : cs.take off ++ us ++ cs.drop (off + us.length) = cs') :
    Eff P n w0 F0 (.store t x y) ty m (a1 :: a2 :: blk bb cs tb :: H) w (fun _ H' => H' = a1 :: a2 :: blk bb cs' tb :: H) :=
  e_store [a1, a2] H hx hy hv hs h1 (Nat.le_of_ble_eq_true hl) hcs rfl
theorem e_storer2 {a1 a2 : Res} {g cap l off : Nat} {xs xs' us : List Value} (hx : ev m x = some (.pointer (some ⟨g, off, .none⟩))) (hy : ev m y = some v) (hv : v.cells = us.toArray) (hs : (P.info? t).map (·.size) = some us.length)
    (h1 : ∀ u ∈ us, u.oneCell' = true) (hl : off + us.length ≤ xs.length) (hcs : xs.take off ++ us ++ xs.drop (off + us.length) = xs') :
    Eff P n w0 F0 (.store t x y) ty m (a1 :: a2 :: row (.slice (some ⟨g, 0, .none⟩) l cap) e sz l xs :: H) w (fun _ H' => H' = a1 :: a2 :: row (.slice (some ⟨g, 0, .none⟩) l cap) e sz l xs' :: H) :=
  e_storer [a1, a2] H hx hy hv hs h1 hl hcs rfl
theorem e_app3 {a1 a2 a3 : Res} {l c : Nat} {xs news : List Value} {xv : Value} (T : SlT P t e sz bytes z) (hx : ev m x = some v) (hy : ev m y = some xv)
    (hr : ∀ w, Holds w0 F0 (a1 :: a2 :: a3 :: row v e sz l xs :: H) w → Rd w Nil sz xv c news) (h1 : ∀ u ∈ news, u.oneCell' = true)
    (hbytes : (l + c) * bytes ≤ 140737488355328) (h63 : l + c ≤ 140737488355328) :
    Eff P n w0 F0 (.call { callee := .builtin .append, args := #[x, y], argTypes := #[t, t] }) ty m (a1 :: a2 :: a3 :: row v e sz l xs :: H) w (fun u H' => H' = a1 :: a2 :: a3 :: row u e sz (l + c) (xs ++ news) :: H) :=
  e_app [a1, a2, a3] H T hx hy rfl hr h1 hbytes h63
theorem e_apps3 {a1 a2 a3 : Res} {l : Nat} {u : TypeId} {xs : List Value} {s : ByteArray} (T : SlT P t e 1 1 (.int .u8 0)) (hu : P.underlying u = some .string) (hx : ev m x = some v) (hy : ev m y = some (.string s))
    (h63 : l + s.size ≤ 140737488355328) :
    Eff P n w0 F0 (.call { callee := .builtin .append, args := #[x, y], argTypes := #[t, u] }) ty m (a1 :: a2 :: a3 :: row v e 1 l xs :: H) w (fun r H' => H' = a1 :: a2 :: a3 :: row r e 1 (l + s.size) (xs ++ Lib.strCells s) :: H) :=
  e_apps [a1, a2, a3] H T hu hx hy rfl h63
theorem e_store3 {a1 a2 a3 : Res} {bb off tb : Nat} {cs cs' us : List Value} (hx : ev m x = some (.pointer (some ⟨bb, off, .none⟩))) (hy : ev m y = some v) (hv : v.cells = us.toArray) (hs : (P.info? t).map (·.size) = some us.length)
    (h1 : ∀ u ∈ us, u.oneCell' = true) (hl : Nat.ble (off + us.length) cs.length = true) (hcs : cs.take off ++ us ++ cs.drop (off + us.length) = cs') :
    Eff P n w0 F0 (.store t x y) ty m (a1 :: a2 :: a3 :: blk bb cs tb :: H) w (fun _ H' => H' = a1 :: a2 :: a3 :: blk bb cs' tb :: H) :=
  e_store [a1, a2, a3] H hx hy hv hs h1 (Nat.le_of_ble_eq_true hl) hcs rfl
theorem e_storer3 {a1 a2 a3 : Res} {g cap l off : Nat} {xs xs' us : List Value} (hx : ev m x = some (.pointer (some ⟨g, off, .none⟩))) (hy : ev m y = some v) (hv : v.cells = us.toArray) (hs : (P.info? t).map (·.size) = some us.length)
    (h1 : ∀ u ∈ us, u.oneCell' = true) (hl : off + us.length ≤ xs.length) (hcs : xs.take off ++ us ++ xs.drop (off + us.length) = xs') :
    Eff P n w0 F0 (.store t x y) ty m (a1 :: a2 :: a3 :: row (.slice (some ⟨g, 0, .none⟩) l cap) e sz l xs :: H) w (fun _ H' => H' = a1 :: a2 :: a3 :: row (.slice (some ⟨g, 0, .none⟩) l cap) e sz l xs' :: H) :=
  e_storer [a1, a2, a3] H hx hy hv hs h1 hl hcs rfl

/-! ### Calls -/

/-- A call of a function value: it is handed Hc, it leaves H1; the rest stays. -/
theorem e_callv {c : Operand} {first captured : Array Value} {f : FuncId} {fn : Func} {xs : List Operand} {vs : List Value} {ts : Array TypeId} {Φ : Value → List Res → Prop} (Hc Hr : List Res) (hcv : ev m c = some (.func (.func f) first captured))
    (hx : evs m xs = some vs) (hf : P.funcs[f]? = some fn) (hb : (fn.body.isNone, fn.name == "runtime.NumGoroutine") = (false, false)) (hH : H.Perm (Hc ++ Hr))
    (hc : ∀ w, Holds w0 F0 H w → Holds w (feet Hc) Hc w → Spec P f (first.toList ++ vs ++ captured.toList) w (feet Hc) Φ) :
    Eff P n w0 F0 (.call { callee := .value c, args := xs.toArray, argTypes := ts }) ty m H w (fun v H' => ∃ H1, H' = H1 ++ Hr ∧ Φ v H1) := fun o a K Q ho1 ho2 ha hh hk => by
  have hargs : (xs.toArray.map a.eval) = vs.toArray := by
    apply Array.ext'
    simpa using ha.evals _ hx
  have hcf : ∀ args : Array Value, (callFunc f args).run P w = .ok (.enter f args) w := fun args => by
    injection hb with hb1 hb2
    simp only [callFunc, Sem.run_bind, run_program, Result.andThen_ok, hf, hb1, hb2, Bool.false_eq_true, if_false, Sem.run_pure]
  have hrun : (execOp a.eval o).run P w = .ok (.enter f (first.toList ++ vs ++ captured.toList).toArray) w := by
    have e : (first.toList ++ vs ++ captured.toList).toArray = first ++ vs.toArray ++ captured := by
      apply Array.ext'
      simp
    simp only [execOp, ho1, resolve, ha.eval hcv, Deferred.ofValue, invoke, hargs, Sem.run_bind, Sem.run_pure, Result.andThen_ok, hcf, e]
  have hperm := hh.perm hH
  have hself : Holds w (feet Hc) Hc w := by
    refine ⟨Frm.refl _ _, ?_⟩
    have hcs := (Hs.append.1 hperm.2).1
    have key : ∀ L : List Res, Hs w0 F0 L w → (∀ r ∈ L, ∀ k, r.foot k → feet Hc k) → Hs w (feet Hc) L w := by
      intro L
      induction L with
      | nil => exact fun _ _ => trivial
      | cons r L ih => exact fun h hin => ⟨⟨h.1.1, fun k hk => ⟨(h.1.2.1 k hk).1, .inr (hin r (List.mem_cons_self ..) k hk)⟩, h.1.2.2⟩, ih h.2 fun s hs => hin s (List.mem_cons_of_mem _ hs)⟩
    exact key Hc hcs fun r hr k hk => ⟨r, hr, hk⟩
  unfold Oper.wp
  rw [hrun, Oper.upon_enter]
  refine Calls.mono (hc w hh hself) ?_
  rintro e' w' ⟨v, H1, rfl, hh1, hp⟩
  exact hk v _ w' ⟨H1, rfl, hp⟩ (hperm.call hh1)

/-- A call of a function: it is handed Hc, it leaves H1; the rest stays. -/
theorem e_call {f : FuncId} {fn : Func} {xs : List Operand} {vs : List Value} {ts : Array TypeId} {Φ : Value → List Res → Prop} (Hc Hr : List Res)
    (hx : evs m xs = some vs) (hf : P.funcs[f]? = some fn) (hb : (fn.body.isNone, fn.name == "runtime.NumGoroutine") = (false, false)) (hH : H.Perm (Hc ++ Hr))
    (hc : ∀ w, Holds w0 F0 H w → Holds w (feet Hc) Hc w → Spec P f vs w (feet Hc) Φ) :
    Eff P n w0 F0 (.call { callee := .value (.func f), args := xs.toArray, argTypes := ts }) ty m H w (fun v H' => ∃ H1, H' = H1 ++ Hr ∧ Φ v H1) :=
  e_callv (c := .func f) (first := #[]) (captured := #[]) Hc Hr rfl hx hf hb hH (by simpa using hc)

/-- A function without a body, that the model knows. -/
theorem f_extern {f : FuncId} {fn : Func} {e : Array Value → Sem Value} {xs : List Operand} {vs : List Value} {ts : Array TypeId} {v : Value} (hx : evs m xs = some vs) (hf : P.funcs[f]? = some fn)
    (hname : (fn.name == "runtime.NumGoroutine") = false) (hb : fn.body.isNone = true) (hn : Extern.findNext fn = none) (he : Extern.find fn = some e) (hr : ∀ w, (e vs.toArray).run P w = .ok v w) :
    Flt P n w0 F0 (.call { callee := .value (.func f), args := xs.toArray, argTypes := ts }) ty m H v := fun o a w ho1 ho2 ha hh => by
  have hargs : (xs.toArray.map a.eval) = vs.toArray := by
    apply Array.ext'
    simpa using ha.evals _ hx
  have hcf := run_callFunc_extern hf hname hb hn he vs.toArray w
  rw [hr, Result.andThen_ok] at hcf
  simp only [execOp, ho1, resolve, Act.eval, Deferred.ofValue, invoke, hargs, Sem.run_bind, Sem.run_pure, Result.andThen_ok, Array.empty_append, Array.append_empty, hcf]

theorem feet_nil : feet [] = Nil := by
  funext k
  simp [feet, Nil]

/-- A call that is handed nothing. -/
theorem e_call0 {f : FuncId} {fn : Func} {xs : List Operand} {vs : List Value} {ts : Array TypeId} {Φ : Value → List Res → Prop}
    (hx : evs m xs = some vs) (hf : P.funcs[f]? = some fn) (hb : (fn.body.isNone, fn.name == "runtime.NumGoroutine") = (false, false))
    (hc : ∀ w, Holds w0 F0 H w → Spec P f vs w Nil Φ) :
    Eff P n w0 F0 (.call { callee := .value (.func f), args := xs.toArray, argTypes := ts }) ty m H w (fun v H' => ∃ H1, H' = H1 ++ H ∧ Φ v H1) :=
  e_call [] H hx hf hb (List.Perm.refl _) fun w hh _ => by rw [feet_nil]; exact hc w hh

theorem feet_one (r : Res) : feet [r] = r.foot := by
  funext k
  simp [feet]

/-- A call that is handed one resource. -/
theorem e_call1 {f : FuncId} {fn : Func} {xs : List Operand} {vs : List Value} {ts : Array TypeId} {Φ : Value → List Res → Prop} (r : Res) (Hr : List Res)
    (hx : evs m xs = some vs) (hf : P.funcs[f]? = some fn) (hb : (fn.body.isNone, fn.name == "runtime.NumGoroutine") = (false, false)) (hH : H.Perm (r :: Hr))
    (hc : ∀ w, Holds w0 F0 H w → Holds w r.foot [r] w → Spec P f vs w r.foot Φ) :
    Eff P n w0 F0 (.call { callee := .value (.func f), args := xs.toArray, argTypes := ts }) ty m H w (fun v H' => ∃ H1, H' = H1 ++ Hr ∧ Φ v H1) :=
  e_call [r] Hr hx hf hb hH fun w hh hs => by rw [feet_one] at hs ⊢; exact hc w hh hs
end

theorem Rd.old1 {w0 w : World} {F0 : Nat → Prop} {H Hr : List Res} {r : Res} {sz n : Nat} {v : Value} {xs : List Value} (h : Rd w0 F0 sz v n xs) (hh : Holds w0 F0 H w) (hp : H.Perm (r :: Hr)) : Rd w r.foot sz v n xs := by
  have := h.old hh (Hc := [r]) (Hr := Hr) hp
  rwa [feet_one] at this
theorem Rd.held1 {w0 w : World} {F0 : Nat → Prop} {H Hr : List Res} {r : Res} {e sz n : Nat} {v : Value} {xs : List Value} (hh : Holds w0 F0 H w) (hp : H.Perm (r :: Hr)) (hr : row v e sz n xs ∈ Hr) : Rd w r.foot sz v n xs := by
  have := Rd.held hh (Hc := [r]) (Hr := Hr) hp hr
  rwa [feet_one] at this
theorem row_form {w0 w : World} {F0 : Nat → Prop} {H : List Res} {e sz n : Nat} {v : Value} {xs : List Value} (hh : Holds w0 F0 H w) {i : Nat} (hi : H[i]? = some (row v e sz n xs)) (hn : 0 < n) : ∃ g cap, v = .slice (some ⟨g, 0, .none⟩) n cap := by
  have hok : w.ownsRow 0 e sz v n xs := hh.ok hi
  rcases hok.2 with ⟨_, h⟩ | ⟨g, cap, cur, h, _⟩
  · omega
  · exact ⟨g, cap, h⟩
/-- The value of a row is a slice. -/
theorem row_slice {w0 w : World} {F0 : Nat → Prop} {H : List Res} {e sz n : Nat} {v : Value} {xs : List Value} (hh : Holds w0 F0 H w) {i : Nat} (hi : H[i]? = some (row v e sz n xs)) : ∃ A cap, v = .slice A n cap := by
  have hok : w.ownsRow 0 e sz v n xs := hh.ok hi
  rcases hok.2 with ⟨h, rfl⟩ | ⟨g, cap, cur, h, _⟩
  · exact ⟨_, _, h⟩
  · exact ⟨_, _, h⟩

theorem Eff.with_ {P : Program} {n : Nat} {w0 : World} {F0 : Nat → Prop} {op : Op} {ty : TypeId} {m : Env} {H : List Res} {w : World} {Φ Ψ : Value → List Res → Prop} (h : Eff P n w0 F0 op ty m H w Φ)
    (hi : ∀ v H' w', Φ v H' → Holds w0 F0 H' w' → Ψ v H') : Eff P n w0 F0 op ty m H w Ψ :=
  fun o a K Q h1 h2 ha hh hk => h o a K Q h1 h2 ha hh fun v H' w' hp hh' => hk v H' w' (hi v H' w' hp hh') hh'
section
variable {P : Program} {n : Nat} {w0 : World} {F0 : Nat → Prop} {m : Env} {H : List Res} {w : World} {ty : TypeId}
  {x y : Operand} {v : Value} {t e sz bytes : Nat} {z : Value}
/-- The same; the new value is seen to be a slice. -/
theorem e_appS0 {l c : Nat} {xs news : List Value} {xv : Value} (T : SlT P t e sz bytes z) (hx : ev m x = some v) (hy : ev m y = some xv)
    (hr : ∀ w, Holds w0 F0 (row v e sz l xs :: H) w → Rd w Nil sz xv c news) (h1 : ∀ u ∈ news, u.oneCell' = true)
    (hbytes : (l + c) * bytes ≤ 140737488355328) (h63 : l + c ≤ 140737488355328) :
    Eff P n w0 F0 (.call { callee := .builtin .append, args := #[x, y], argTypes := #[t, t] }) ty m (row v e sz l xs :: H) w (fun u H' => (∃ A cap, u = .slice A (l + c) cap) ∧ H' = row u e sz (l + c) (xs ++ news) :: H) :=
  (e_app0 T hx hy hr h1 hbytes h63).with_ fun v H' w' hH hh => ⟨by subst hH; exact row_slice hh (i := 0) rfl, hH⟩
theorem e_appsS0 {l : Nat} {u : TypeId} {xs : List Value} {s : ByteArray} (T : SlT P t e 1 1 (.int .u8 0)) (hu : P.underlying u = some .string) (hx : ev m x = some v) (hy : ev m y = some (.string s))
    (h63 : l + s.size ≤ 140737488355328) :
    Eff P n w0 F0 (.call { callee := .builtin .append, args := #[x, y], argTypes := #[t, u] }) ty m (row v e 1 l xs :: H) w (fun r H' => (∃ A cap, r = .slice A (l + s.size) cap) ∧ H' = row r e 1 (l + s.size) (xs ++ Lib.strCells s) :: H) :=
  (e_apps0 T hu hx hy h63).with_ fun v H' w' hH hh => ⟨by subst hH; exact row_slice hh (i := 0) rfl, hH⟩
/-- The same; the new value is seen to be a slice. -/
theorem e_appS1 {a1 : Res} {l c : Nat} {xs news : List Value} {xv : Value} (T : SlT P t e sz bytes z) (hx : ev m x = some v) (hy : ev m y = some xv)
    (hr : ∀ w, Holds w0 F0 (a1 :: row v e sz l xs :: H) w → Rd w Nil sz xv c news) (h1 : ∀ u ∈ news, u.oneCell' = true)
    (hbytes : (l + c) * bytes ≤ 140737488355328) (h63 : l + c ≤ 140737488355328) :
    Eff P n w0 F0 (.call { callee := .builtin .append, args := #[x, y], argTypes := #[t, t] }) ty m (a1 :: row v e sz l xs :: H) w (fun u H' => (∃ A cap, u = .slice A (l + c) cap) ∧ H' = a1 :: row u e sz (l + c) (xs ++ news) :: H) :=
  (e_app1 T hx hy hr h1 hbytes h63).with_ fun v H' w' hH hh => ⟨by subst hH; exact row_slice hh (i := 1) rfl, hH⟩
theorem e_appsS1 {a1 : Res} {l : Nat} {u : TypeId} {xs : List Value} {s : ByteArray} (T : SlT P t e 1 1 (.int .u8 0)) (hu : P.underlying u = some .string) (hx : ev m x = some v) (hy : ev m y = some (.string s))
    (h63 : l + s.size ≤ 140737488355328) :
    Eff P n w0 F0 (.call { callee := .builtin .append, args := #[x, y], argTypes := #[t, u] }) ty m (a1 :: row v e 1 l xs :: H) w (fun r H' => (∃ A cap, r = .slice A (l + s.size) cap) ∧ H' = a1 :: row r e 1 (l + s.size) (xs ++ Lib.strCells s) :: H) :=
  (e_apps1 T hu hx hy h63).with_ fun v H' w' hH hh => ⟨by subst hH; exact row_slice hh (i := 1) rfl, hH⟩
/-- The same; the new value is seen to be a slice. -/
theorem e_appS2 {a1 a2 : Res} {l c : Nat} {xs news : List Value} {xv : Value} (T : SlT P t e sz bytes z) (hx : ev m x = some v) (hy : ev m y = some xv)
    (hr : ∀ w, Holds w0 F0 (a1 :: a2 :: row v e sz l xs :: H) w → Rd w Nil sz xv c news) (h1 : ∀ u ∈ news, u.oneCell' = true)
    (hbytes : (l + c) * bytes ≤ 140737488355328) (h63 : l + c ≤ 140737488355328) :
    Eff P n w0 F0 (.call { callee := .builtin .append, args := #[x, y], argTypes := #[t, t] }) ty m (a1 :: a2 :: row v e sz l xs :: H) w (fun u H' => (∃ A cap, u = .slice A (l + c) cap) ∧ H' = a1 :: a2 :: row u e sz (l + c) (xs ++ news) :: H) :=
  (e_app2 T hx hy hr h1 hbytes h63).with_ fun v H' w' hH hh => ⟨by subst hH; exact row_slice hh (i := 2) rfl, hH⟩
theorem e_appsS2 {a1 a2 : Res} {l : Nat} {u : TypeId} {xs : List Value} {s : ByteArray} (T : SlT P t e 1 1 (.int .u8 0)) (hu : P.underlying u = some .string) (hx : ev m x = some v) (hy : ev m y = some (.string s))
    (h63 : l + s.size ≤ 140737488355328) :
    Eff P n w0 F0 (.call { callee := .builtin .append, args := #[x, y], argTypes := #[t, u] }) ty m (a1 :: a2 :: row v e 1 l xs :: H) w (fun r H' => (∃ A cap, r = .slice A (l + s.size) cap) ∧ H' = a1 :: a2 :: row r e 1 (l + s.size) (xs ++ Lib.strCells s) :: H) :=
  (e_apps2 T hu hx hy h63).with_ fun v H' w' hH hh => ⟨by subst hH; exact row_slice hh (i := 2) rfl, hH⟩
/-- The same; the new value is seen to be a slice. -/
theorem e_appS3 {a1 a2 a3 : Res} {l c : Nat} {xs news : List Value} {xv : Value} (T : SlT P t e sz bytes z) (hx : ev m x = some v) (hy : ev m y = some xv)
    (hr : ∀ w, Holds w0 F0 (a1 :: a2 :: a3 :: row v e sz l xs :: H) w → Rd w Nil sz xv c news) (h1 : ∀ u ∈ news, u.oneCell' = true)
    (hbytes : (l + c) * bytes ≤ 140737488355328) (h63 : l + c ≤ 140737488355328) :
    Eff P n w0 F0 (.call { callee := .builtin .append, args := #[x, y], argTypes := #[t, t] }) ty m (a1 :: a2 :: a3 :: row v e sz l xs :: H) w (fun u H' => (∃ A cap, u = .slice A (l + c) cap) ∧ H' = a1 :: a2 :: a3 :: row u e sz (l + c) (xs ++ news) :: H) :=
  (e_app3 T hx hy hr h1 hbytes h63).with_ fun v H' w' hH hh => ⟨by subst hH; exact row_slice hh (i := 3) rfl, hH⟩
theorem e_appsS3 {a1 a2 a3 : Res} {l : Nat} {u : TypeId} {xs : List Value} {s : ByteArray} (T : SlT P t e 1 1 (.int .u8 0)) (hu : P.underlying u = some .string) (hx : ev m x = some v) (hy : ev m y = some (.string s))
    (h63 : l + s.size ≤ 140737488355328) :
    Eff P n w0 F0 (.call { callee := .builtin .append, args := #[x, y], argTypes := #[t, u] }) ty m (a1 :: a2 :: a3 :: row v e 1 l xs :: H) w (fun r H' => (∃ A cap, r = .slice A (l + s.size) cap) ∧ H' = a1 :: a2 :: a3 :: row r e 1 (l + s.size) (xs ++ Lib.strCells s) :: H) :=
  (e_apps3 T hu hx hy h63).with_ fun v H' w' hH hh => ⟨by subst hH; exact row_slice hh (i := 3) rfl, hH⟩
end
theorem str_size (xs : List Nat) : (str xs).size = xs.length := by
  show (str xs).data.size = _
  simp [str]
theorem start1 {w : World} {r : Res} (h : Holds w r.foot [r] w) : Holds w r.foot [r] w := h
end Go.Proofs.YtmagdjlcckgkpaaGreat

/- The proof kit, fifth part: regions that draw their order and change what they have read. Each stable resource may bear the number of the operation that ends it. -/
namespace Go.Proofs.YtmagdjlcckgkpaaGreat
open Go.RowKit

section
variable {P : Program} {ops : Array Oper} {Q : Exit → Act → World → Prop} {md : Region.Mode} {S : Array Bool → World → Prop}

def wpAnyI (P : Program) (md : Region.Mode) (ops : Array Oper) (Q : Exit → Act → World → Prop) (S : Array Bool → World → Prop) : Nat → Array Bool → Act → World → Prop
  | 0, listed, a, w => Region.ready md ops listed = [] ∧ Q .normal a w
  | fuel + 1, listed, a, w =>
    (Region.ready md ops listed = [] → Q .normal a w) ∧
    ∀ i ∈ Region.ready md ops listed, wpOp P ops Q i (fun a' w' => S (listed.setIfInBounds i true) w' ∧ wpAnyI P md ops Q S fuel (listed.setIfInBounds i true) a' w') a w

theorem wpAny_of_I : ∀ (fuel : Nat) (listed : Array Bool) (a : Act) (w : World), wpAnyI P md ops Q S fuel listed a w → wpAny P md ops Q fuel listed a w
  | 0, _, _, _, h => h
  | fuel + 1, _, _, _, h => ⟨h.1, fun i hi => wpOp_mono (fun a' w' h' => wpAny_of_I fuel _ a' w' h'.2) (h.2 i hi)⟩

/-- What is listed waits for nothing that is not. -/
def Closed (md : Region.Mode) (ops : Array Oper) (listed : Array Bool) : Prop :=
  ∀ (j : Nat) (o : Oper), ops[j]? = some o → listed.getD j false = true → ∀ e ∈ o.after, Region.binds md e = true → listed.getD e.on false = true

theorem Closed.step {listed : Array Bool} (h : Closed md ops listed) {i : Nat} (hi : i ∈ Region.ready md ops listed) : Closed md ops (listed.setIfInBounds i true) := by
  intro j o ho hl e he hb
  by_cases hji : j = i
  · subst hji
    obtain ⟨_, o', ho', hall⟩ := mem_ready.1 hi
    rw [ho] at ho'
    injection ho' with ho'
    subst ho'
    exact getD_set_true (hall e he hb)
  · rw [getD_set_ne false (Ne.symm hji)] at hl
    exact getD_set_true (h j o ho hl e he hb)

def Above (listed listed' : Array Bool) : Prop := ∀ j, listed.getD j false = true → listed'.getD j false = true

/-- Whatever has been carried out in the meantime, the operation leaves v. -/
def YieldsI (P : Program) (md : Region.Mode) (ops : Array Oper) (S : Array Bool → World → Prop) (listed : Array Bool) (i : Nat) (o : Oper) (v : Value) (a : Act) : Prop :=
  (Region.wanted o (yielded ops a.tmps) = true ∧ ∀ listed' w, Above listed listed' → listed'.getD i true = false → Closed md ops listed' → S listed' w → (execOp a.eval o).run P w = .ok (.value v) w) ∨
  (Region.wanted o (yielded ops a.tmps) = false ∧ v = undef)

theorem YieldsI.of_same {listed : Array Bool} {i : Nat} {o : Oper} {v : Value} {a a' : Act} (hy : YieldsI P md ops S listed i o v a) (he : execOp a'.eval o = execOp a.eval o)
    (hw : Region.wanted o (yielded ops a'.tmps) = Region.wanted o (yielded ops a.tmps)) : YieldsI P md ops S listed i o v a' := by
  unfold YieldsI at *
  rw [he, hw]
  exact hy

theorem YieldsI.above {listed listed2 : Array Bool} {i : Nat} {o : Oper} {v : Value} {a : Act} (hy : YieldsI P md ops S listed i o v a) (h : Above listed listed2) : YieldsI P md ops S listed2 i o v a :=
  hy.imp (fun ⟨h1, h2⟩ => ⟨h1, fun l w hl => h2 l w (fun j hj => hl j (h j hj))⟩) id

theorem YieldsI.wpOp {listed : Array Bool} {i : Nat} {o : Oper} {v : Value} {a : Act} (hi : ops[i]? = some o) (hy : YieldsI P md ops S listed i o v a)
    {K : Act → World → Prop} {w : World} (hl : listed.getD i true = false) (hc : Closed md ops listed) (hS : S listed w) (h : K (a.put o.dst v) w) : wpOp P ops Q i K a w := by
  unfold Go.wpOp
  simp only [hi]
  rcases hy with ⟨hw, hv⟩ | ⟨hw, rfl⟩
  · simp only [hw, if_true, Oper.wp, hv listed w (fun _ h => h) hl hc hS, Oper.upon]; exact .inl h
  · simp only [hw, Bool.false_eq_true, if_false]; exact h

theorem wpOp_putI {listed : Array Bool} {i j : Nat} {oi oj : Oper} {v : Value} (hj : ops[j]? = some oj) (hap : oi.apart ops oj = true)
    (hsi : ∀ cs b, oi.op ≠ .select cs b) (hsj : ∀ cs b, oj.op ≠ .select cs b)
    (hQ : ∀ c a w, Q (.panic c) (a.put oi.dst v) w → Q (.panic c) a w) {K : Act → World → Prop} {a : Act} {w : World}
    (hy : YieldsI P md ops S listed i oi v a) (h : wpOp P ops Q j K (a.put oi.dst v) w) :
    wpOp P ops Q j (fun a' w' => YieldsI P md ops S listed i oi v a' ∧ K (a'.put oi.dst v) w') a w := by
  obtain ⟨h1, h2, h3⟩ := Oper.apart_spec hap
  have keep : ∀ (a : Act), YieldsI P md ops S listed i oi v a → ∀ u, YieldsI P md ops S listed i oi v (a.put oj.dst u) := fun a hy u =>
    hy.of_same (execOp_put oi hsi a oj.dst u h3) (wanted_put oi a oj.dst u h3)
  have keepD : ∀ d, YieldsI P md ops S listed i oi v { a with defers := d :: a.defers } := fun d => hy.of_same rfl rfl
  unfold wpOp at *
  simp only [hj] at *
  rw [wanted_put oj a oi.dst v h1] at h
  split
  · rename_i hw
    simp only [hw, if_true] at h
    rcases h with h | ⟨hasks, hlets⟩
    case inr => exact .inr ⟨by unfold Oper.asks at *; rw [execOp_put oj hsj a oi.dst v h1] at hasks; exact hasks, hlets⟩
    refine .inl ?_
    unfold Oper.wp at *
    rw [execOp_put oj hsj a oi.dst v h1] at h
    generalize (execOp a.eval oj).run P w = r at *
    cases r with
    | ok n w' =>
      cases n <;> simp only [Oper.upon] at h ⊢
      case value u => exact ⟨keep a hy u, by rw [← Act.put_comm a v u h2]; exact h⟩
      case skip => exact ⟨keep a hy _, by rw [← Act.put_comm a v undef h2]; exact h⟩
      case defer d =>
        refine ⟨keep _ (keepD d) _, ?_⟩
        rw [← Act.put_comm _ v undef h2, ← Act.put_defers]
        exact h
      case enter f args =>
        refine Calls.mono h fun e w'' he => ?_
        cases e with
        | returned u => exact ⟨keep a hy u, by rw [← Act.put_comm a v u h2]; exact he⟩
        | panicked c => exact hQ _ _ _ he
        | outgrown => exact he
      case row row args => exact Rows.mono h fun u w'' he => ⟨keep a hy u, by rw [← Act.put_comm a v u h2]; exact he⟩
    | halt x w' =>
      cases x <;> simp only [Oper.upon] at h ⊢
      case panic u => exact hQ _ _ _ h
  · rename_i hw
    simp only [hw] at h
    exact ⟨keep a hy _, by rw [← Act.put_comm a v undef h2]; exact h⟩

theorem above_set (listed : Array Bool) (j : Nat) : Above listed (listed.setIfInBounds j true) := fun _ h => getD_set_true h

theorem wpAnyI_first {i : Nat} {oi : Oper} {v : Value} (hi : ops[i]? = some oi) (hsel : ∀ (j : Nat) (o : Oper) cs b, ops[j]? = some o → o.op ≠ .select cs b)
    (hQ : ∀ c a w, Q (.panic c) (a.put oi.dst v) w → Q (.panic c) a w) (hSi : ∀ listed w, S (listed.setIfInBounds i true) w ↔ S listed w) :
    ∀ (fuel : Nat) (listed : Array Bool) (a : Act) (w : World),
      (∀ j oj, ops[j]? = some oj → j ≠ i → listed.getD j true = false → (∀ e ∈ oj.after, Region.binds md e = true → e.on ≠ i) → oi.apart ops oj = true) →
      i ∈ Region.ready md ops listed → YieldsI P md ops S listed i oi v a → Closed md ops listed → S listed w →
      wpAnyI P md ops Q S fuel (listed.setIfInBounds i true) (a.put oi.dst v) w → wpAnyI P md ops Q S (fuel + 1) listed a w := by
  intro fuel
  induction fuel with
  | zero =>
    intro listed a w _ hr hy hc hS H
    have hli := (mem_ready.1 hr).1
    refine ⟨fun h => (by rw [h] at hr; cases hr), fun j hj => ?_⟩
    by_cases hji : j = i
    · subst hji; exact hy.wpOp hi hli hc hS ⟨(hSi _ _).2 hS, H⟩
    · have := ready_mono hj hji
      rw [H.1] at this
      cases this
  | succ fuel ih =>
    intro listed a w hfree hr hy hc hS H
    have hli := (mem_ready.1 hr).1
    refine ⟨fun h => (by rw [h] at hr; cases hr), fun j hj => ?_⟩
    by_cases hji : j = i
    · subst hji; exact hy.wpOp hi hli hc hS ⟨(hSi _ _).2 hS, H⟩
    · have h1 := H.2 j (ready_mono hj hji)
      obtain ⟨hjun, oj, hoj, hall⟩ := mem_ready.1 hj
      have hnot : ∀ e ∈ oj.after, Region.binds md e = true → e.on ≠ i := fun e he hb heq => by
        have h1 := hall e he hb
        have h0 := (mem_ready.1 hr).1
        rw [heq] at h1
        rcases Nat.lt_or_ge i listed.size with h' | h'
        · simp [h'] at h0 h1; rw [h0] at h1; cases h1
        · simp [Array.getElem?_eq_none h'] at h1
      have h2 := wpOp_putI hoj (hfree j oj hoj hji hjun hnot) (fun cs b => hsel i oi cs b hi) (fun cs b => hsel j oj cs b hoj) hQ hy h1
      have hfree' : ∀ k ok, ops[k]? = some ok → k ≠ i → (listed.setIfInBounds j true).getD k true = false →
          (∀ e ∈ ok.after, Region.binds md e = true → e.on ≠ i) → oi.apart ops ok = true := fun k ok hk hki hun hno => by
        refine hfree k ok hk hki ?_ hno
        by_cases hjk : j = k
        · subst hjk; exact hjun
        · rw [getD_set_ne true hjk] at hun; exact hun
      refine wpOp_mono (fun a' w' h3 => ?_) h2
      have hS' : S (listed.setIfInBounds j true) w' := by
        have := h3.2.1
        rw [Array.setIfInBounds_comm _ _ (Ne.symm hji)] at this
        exact (hSi _ _).1 this
      refine ⟨hS', ih (listed.setIfInBounds j true) a' w' hfree' (ready_mono hr (Ne.symm hji)) (h3.1.above (above_set _ _)) (hc.step hj) hS' ?_⟩
      rw [Array.setIfInBounds_comm _ _ hji]
      exact h3.2.2

/-- e waits for i. -/
def depOn (ops : Array Oper) : Nat → Nat → Nat → Bool
  | 0, _, _ => false
  | f + 1, e, i => match ops[e]? with
    | some o => o.after.toList.any fun x => Region.binds .any x && (Nat.beq x.on i || depOn ops f x.on i)
    | .none => false

theorem depOn_closed {listed : Array Bool} (hc : Closed .any ops listed) : ∀ (f e i : Nat), depOn ops f e i = true → listed.getD e false = true → listed.getD i false = true
  | 0, _, _, h, _ => by cases h
  | f + 1, e, i, h, hl => by
    simp only [depOn] at h
    split at h
    · rename_i o ho
      obtain ⟨x, hx, hb⟩ := List.any_eq_true.1 h
      have hx := Array.mem_toList_iff.1 hx
      simp only [Bool.and_eq_true, Bool.or_eq_true] at hb
      have h1 := hc e o ho hl x hx hb.1
      rcases hb.2 with h2 | h2
      · rw [Nat.eq_of_beq_eq_true h2] at h1; exact h1
      · exact depOn_closed hc f x.on i h2 h1
    · cases h
end

section
variable {P : Program} {n : Nat} {w0 : World} {F0 : Nat → Prop} {N R : Cond} {X : Nat → Cond} {m : Env} {H : List Res} {w : World}
  {ops : Array Oper} {op : Op} {ty : TypeId} {pos : String} {af : Array Edge} {v : Value} {Φ : Value → List Res → Prop} {d : Nat}

abbrev KRes := Res × Option Nat
def alive (listed : Array Bool) : List KRes → List Res
  | [] => []
  | (r, .none) :: l => r :: alive listed l
  | (r, some e) :: l => bif listed.getD e false then alive listed l else r :: alive listed l
def kill (i : Nat) : List KRes → List KRes
  | [] => []
  | (r, .none) :: l => (r, .none) :: kill i l
  | (r, some e) :: l => bif Nat.beq e i then kill i l else (r, some e) :: kill i l
def resOf' : List KRes → List Res
  | [] => []
  | (r, _) :: l => r :: resOf' l
/-- What operation i may read: resources that nothing ends, or that are ended by an operation that waits for i. -/
def readOk (ops : Array Oper) (i : Nat) : List KRes → List Res
  | [] => []
  | (r, .none) :: l => r :: readOk ops i l
  | (r, some e) :: l => bif depOn ops ops.size e i then r :: readOk ops i l else readOk ops i l
def noKill (i : Nat) : List KRes → Bool
  | [] => true
  | (_, .none) :: l => noKill i l
  | (_, some e) :: l => !Nat.beq e i && noKill i l

def WK (P : Program) (n : Nat) (w0 : World) (F0 : Nat → Prop) (ops : Array Oper) (N : Cond) : List KRes → List (Nat × Bool) → Env → List Res → World → Prop
  | Hst, [], m, H, w => ∃ m' L, Sub m' m ∧ (∃ E, (resOf' Hst ++ H).Perm (L ++ E)) ∧ N m' L w
  | Hst, (i, true) :: σ, m, H, w => ∃ d op ty pos af g v, ops[i]? = some ⟨some d, op, ty, pos, af, g⟩ ∧ Nat.blt d n = true ∧ noKill i Hst = true ∧
      ((Flt P n w0 F0 op ty m (readOk ops i Hst) v ∧ (g = .none ∨ ∃ j b t, g = some (j, b) ∧ (ops[j]?).bind (·.dst) = some t ∧ lk m t = some (.bool b))) ∨
       (v = undef ∧ ∃ j b t, g = some (j, b) ∧ (ops[j]?).bind (·.dst) = some t ∧ (lk m t = some (.bool !b) ∨ lk m t = some undef))) ∧
      WK P n w0 F0 ops N Hst σ ((d, v) :: m) H w
  | Hst, (i, false) :: σ, m, H, w => ∃ dst op ty pos af, ops[i]? = some ⟨dst, op, ty, pos, af, .none⟩ ∧ (match dst with | some d => Nat.blt d n = true | .none => True) ∧
      ∃ Φ, Eff P n w0 F0 op ty m (resOf' Hst ++ H) w Φ ∧
        ∀ v H' w', Φ v H' → ∃ H'', H'.Perm (resOf' (kill i Hst) ++ H'') ∧ WK P n w0 F0 ops N (kill i Hst) σ (match dst with | some d => (d, v) :: m | .none => m) H'' w'

theorem alive_sub {listed : Array Bool} {i : Nat} (hc : Closed .any ops listed) (hi : listed.getD i true = false) : ∀ (L : List KRes), (readOk ops i L).Sublist (alive listed L)
  | [] => List.Sublist.refl _
  | (r, .none) :: l => (alive_sub hc hi l).cons_cons r
  | (r, some e) :: l => by
    simp only [readOk, alive]
    cases hd : depOn ops ops.size e i with
    | false =>
      simp only [cond_false]
      cases listed.getD e false with
      | true => exact alive_sub hc hi l
      | false => exact (alive_sub hc hi l).cons r
    | true =>
      have : listed.getD e false = false := by
        cases hq : listed.getD e false with
        | false => rfl
        | true =>
          have := depOn_closed hc _ e i hd hq
          rcases Nat.lt_or_ge i listed.size with h' | h'
          · simp [h'] at this hi; rw [this] at hi; cases hi
          · simp [Array.getElem?_eq_none h'] at this
      simp only [this, cond_true, cond_false]
      exact (alive_sub hc hi l).cons_cons r

theorem alive_noKill {listed : Array Bool} {i : Nat} : ∀ (L : List KRes), noKill i L = true → alive (listed.setIfInBounds i true) L = alive listed L
  | [], _ => rfl
  | (r, .none) :: l, h => by simp only [alive]; rw [alive_noKill l h]
  | (r, some e) :: l, h => by
    simp only [noKill, Bool.and_eq_true, Bool.not_eq_true'] at h
    have hne : i ≠ e := fun he => by subst he; simp at h
    simp only [alive]
    rw [getD_set_ne false hne, alive_noKill l h.2]

theorem alive_kill {listed : Array Bool} {i : Nat} (hi : i < listed.size) : ∀ (L : List KRes), alive (listed.setIfInBounds i true) L = alive listed (kill i L)
  | [] => rfl
  | (r, .none) :: l => by simp only [alive, kill]; rw [alive_kill hi l]
  | (r, some e) :: l => by
    simp only [alive, kill]
    by_cases hei : e = i
    · subst hei
      simp only [Nat.beq_refl, cond_true]
      have : (listed.setIfInBounds e true).getD e false = true := by simp [hi]
      rw [this]
      exact alive_kill hi l
    · have hb : Nat.beq e i = false := by
        cases hq : Nat.beq e i with
        | false => rfl
        | true => exact absurd (Nat.eq_of_beq_eq_true hq) hei
      simp only [hb, cond_false, alive]
      rw [getD_set_ne false (Ne.symm hei), alive_kill hi l]

/-- The listed array and the current list of stable resources fit. -/
def Fits (listed : Array Bool) (Hst0 Hst : List KRes) : Prop := ∀ listed', Above listed listed' → alive listed' Hst0 = alive listed' Hst

theorem alive_all {listed : Array Bool} : ∀ (L : List KRes), (∀ r e, (r, some e) ∈ L → listed.getD e false = false) → alive listed L = resOf' L
  | [], _ => rfl
  | (r, .none) :: l, h => by simp only [alive, resOf']; rw [alive_all l fun r e hm => h r e (List.mem_cons_of_mem _ hm)]
  | (r, some e) :: l, h => by
    simp only [alive, resOf']
    rw [h r e (List.mem_cons_self ..), alive_all l fun r e hm => h r e (List.mem_cons_of_mem _ hm)]
    rfl

theorem kill_mem {i : Nat} : ∀ (L : List KRes) (r : Res) (e : Nat), (r, some e) ∈ kill i L → (r, some e) ∈ L ∧ e ≠ i
  | [], _, _, h => by simp [kill] at h
  | (s, .none) :: l, r, e, h => by
    simp only [kill, List.mem_cons] at h
    rcases h with h | h
    · cases h
    · have := kill_mem l r e h; exact ⟨List.mem_cons_of_mem _ this.1, this.2⟩
  | (s, some e') :: l, r, e, h => by
    simp only [kill] at h
    by_cases hei : e' = i
    · subst hei
      simp only [Nat.beq_refl, cond_true] at h
      have := kill_mem l r e h; exact ⟨List.mem_cons_of_mem _ this.1, this.2⟩
    · have hb : Nat.beq e' i = false := by
        cases hq : Nat.beq e' i with
        | false => rfl
        | true => exact absurd (Nat.eq_of_beq_eq_true hq) hei
      simp only [hb, cond_false, List.mem_cons] at h
      rcases h with h | h
      · injection h with h1 h2
        injection h2 with h2
        subst h1; subst h2
        exact ⟨List.mem_cons_self .., hei⟩
      · have := kill_mem l r e h; exact ⟨List.mem_cons_of_mem _ this.1, this.2⟩

theorem wk_sound {Hst0 : List KRes} (hns : Region.noSelect ops = true) (Q : Exit → Act → World → Prop) (hpan : ∀ c a w, ¬ Q (.panic c) a w)
    (hQ : ∀ a' w', (∃ m' H', Fr n m' a' ∧ Holds w0 F0 H' w' ∧ N m' H' w') → Q .normal a' w') :
    ∀ (σ : List (Nat × Bool)) (fuel : Nat) (listed : Array Bool) (Hst : List KRes) (m : Env) (H : List Res) (a : Act) (w : World), σ.length ≤ fuel → listed.size = ops.size → okOrd ops listed σ = true →
      Closed .any ops listed → (∀ l, Above listed l → l.size = ops.size → alive l Hst0 = alive l Hst) → (∀ r e, (r, some e) ∈ Hst → listed.getD e false = false) → Fr n m a → Holds w0 F0 (resOf' Hst ++ H) w → WK P n w0 F0 ops N Hst σ m H w →
      (∀ i, (i, true) ∈ σ → noKill i Hst0 = true) →
      wpAnyI P .any ops Q (fun l w' => l.size = ops.size ∧ ∃ H', Holds w0 F0 (alive l Hst0 ++ H') w') fuel listed a w
  | [], fuel, listed, Hst, m, H, a, w, _, _, hok, _, _, _, ha, hh, hd, _ => by
    obtain ⟨m', L, hs, ⟨E, hE⟩, hN⟩ := hd
    have hh := hh.pick hE
    simp only [okOrd, List.isEmpty_iff] at hok
    cases fuel with
    | zero => exact ⟨hok, hQ a w ⟨m', _, ha.sub hs, hh, hN⟩⟩
    | succ f => exact ⟨fun _ => hQ a w ⟨m', _, ha.sub hs, hh, hN⟩, by rw [hok]; simp⟩
  | (i, true) :: σ, 0, _, _, _, _, _, _, hl, _, _, _, _, _, _, _, _, _ => by simp at hl
  | (i, false) :: σ, 0, _, _, _, _, _, _, hl, _, _, _, _, _, _, _, _, _ => by simp at hl
  | (i, true) :: σ, fuel + 1, listed, Hst, m, H, a, w, hl, hsz, hok, hc, hfit, hun, ha, hh, hd, hnk => by
    obtain ⟨d, op, ty, pos, af, g, v, hi, hdn, _, hv, hrest⟩ := hd
    simp only [okOrd, cond_true, Bool.and_eq_true] at hok
    have hready : i ∈ Region.ready .any ops listed := by simpa using hok.1.2
    have hk0 := hnk i (List.mem_cons_self ..)
    have hil : i < listed.size := by rw [hsz]; exact (Array.getElem?_eq_some_iff.1 hi).1
    have hfit' : ∀ l, Above (listed.setIfInBounds i true) l → l.size = ops.size → alive l Hst0 = alive l Hst := fun l hl' => hfit l (fun j hj => hl' j (above_set _ _ j hj))
    have hnki : noKill i Hst = true := by assumption
    have hun' : ∀ r e, (r, some e) ∈ Hst → (listed.setIfInBounds i true).getD e false = false := by
      intro r e hm
      have hne : i ≠ e := by
        rintro rfl
        have key : ∀ L : List KRes, noKill i L = true → (r, some i) ∉ L := by
          intro L
          induction L with
          | nil => simp
          | cons x L ih =>
            obtain ⟨s, k⟩ := x
            cases k with
            | none => intro h hm; rcases List.mem_cons.1 hm with hm | hm
                      · cases hm
                      · exact ih h hm
            | some k =>
              intro h hm
              simp only [noKill, Bool.and_eq_true, Bool.not_eq_true'] at h
              rcases List.mem_cons.1 hm with hm | hm
              · injection hm with _ hm; injection hm with hm; subst hm; simp at h
              · exact ih h.2 hm
        exact key Hst hnki hm
      rw [getD_set_ne false hne]
      exact hun r e hm
    refine wpAnyI_first hi (Region.noSelect_spec hns) (fun c a w h => (hpan _ _ _ h).elim) ?_ fuel listed a w (Region.free_spec hi hok.1.1) hready ?_ hc ⟨hsz, H, ?_⟩
      (wk_sound hns Q hpan hQ σ fuel _ Hst ((d, v) :: m) H _ w (by simpa using hl) (by simpa using hsz) hok.2 (hc.step hready) hfit' hun' (ha.put hdn v) hh hrest (fun k hk => hnk k (List.mem_cons_of_mem _ hk)))
    · intro l w'
      rw [alive_noKill Hst0 hk0]
      simp
    · rcases hv with ⟨hf, hg⟩ | ⟨rfl, j, b, t, rfl, hj, hlk⟩
      · refine .inl ⟨?_, fun l w' hab hil' hcl ⟨hlsz, H', hh'⟩ => hf _ a w' rfl rfl ha ?_⟩
        · rcases hg with rfl | ⟨j, b, t, rfl, hj, hlk⟩
          · rfl
          · simp [Region.wanted, yielded_of ha hj hlk]
        · rw [hfit l hab hlsz] at hh'
          exact (hh'.drop_ (List.sublist_append_left _ _)).drop_ (alive_sub hcl hil' Hst)
      · refine .inr ⟨?_, rfl⟩
        rcases hlk with hlk | hlk
        · simp [Region.wanted, yielded_of ha hj hlk]
        · simp [Region.wanted, yielded_undef ha hj hlk]
    · rw [hfit listed (fun _ h => h) hsz, alive_all Hst hun]
      exact hh
  | (i, false) :: σ, fuel + 1, listed, Hst, m, H, a, w, hl, hsz, hok, hc, hfit, hun, ha, hh, hd, hnk => by
    obtain ⟨dst, op, ty, pos, af, hi, hdn, Φ, he, hk⟩ := hd
    simp only [okOrd, cond_false, Bool.and_eq_true, beq_iff_eq] at hok
    refine ⟨fun h0 => absurd (hok.1 ▸ h0) (by simp), fun k hk' => ?_⟩
    obtain rfl : k = i := by rw [hok.1] at hk'; simpa using hk'
    have hready : k ∈ Region.ready .any ops listed := by rw [hok.1]; simp
    have hil : k < listed.size := by rw [hsz]; exact (Array.getElem?_eq_some_iff.1 hi).1
    have put : ∀ v, Fr n (match dst with | some d => (d, v) :: m | .none => m) (a.put dst v) := by
      intro v
      cases dst with
      | none => exact ha
      | some d => exact ha.put hdn v
    have hw : Region.wanted (⟨dst, op, ty, pos, af, .none⟩ : Oper) (yielded ops a.tmps) = true := rfl
    have hun' : ∀ r e, (r, some e) ∈ kill k Hst → (listed.setIfInBounds k true).getD e false = false := by
      intro r e hm
      obtain ⟨h1, h2⟩ := kill_mem Hst r e hm
      rw [getD_set_ne false (Ne.symm h2)]
      exact hun r e h1
    have hset : ∀ l : Array Bool, Above (listed.setIfInBounds k true) l → l.size = ops.size → l = l.setIfInBounds k true := by
      intro l hab hls
      have : l.getD k false = true := hab k (by simp [hil])
      apply Array.ext
      · simp
      · intro j h1 h2
        by_cases hjk : j = k
        · subst hjk
          have h3 : l[j]? = some l[j] := Array.getElem?_eq_getElem h1
          simp [h3] at this
          simp [this]
        · rw [Array.getElem_setIfInBounds_ne h1 (Ne.symm hjk)]
    have hfit' : ∀ l, Above (listed.setIfInBounds k true) l → l.size = ops.size → alive l Hst0 = alive l (kill k Hst) := by
      intro l hab hls
      rw [hfit l (fun j hj => hab j (above_set _ _ j hj)) hls]
      rw [hset l hab hls, alive_kill (by rw [hls]; exact (Array.getElem?_eq_some_iff.1 hi).1) Hst, ← hset l hab hls]
    unfold wpOp
    simp only [hi, hw, if_true]
    refine .inl (he _ a _ Q rfl rfl ha hh fun v H' w' hp hh' => ?_)
    obtain ⟨H'', hpm, hwd⟩ := hk v H' w' hp
    have hh'' := hh'.perm hpm
    refine ⟨⟨by simpa using hsz, H'', ?_⟩, wk_sound hns Q hpan hQ σ fuel _ (kill k Hst) _ H'' _ w' (by simpa using hl) (by simpa using hsz) hok.2 (hc.step hready) hfit' hun' (put v) hh'' hwd (fun j hj => hnk j (List.mem_cons_of_mem _ hj))⟩
    rw [hfit' _ (fun _ h => h) (by simpa using hsz), alive_all _ hun']
    exact hh''

def allNoKill (σ : List (Nat × Bool)) (Hst : List KRes) : Bool := σ.all fun (i, fl) => !fl || noKill i Hst

theorem w_drawk {id : Nat} (σ : List (Nat × Bool)) (Hst : List KRes) (Hm : List Res) (hm : P.follows .mixedOrders = true) (hns : Region.noSelect ops = true)
    (hok : okOrd ops (Array.replicate ops.size false) σ = true) (hlen : Nat.ble σ.length ops.size = true) (hnk : allNoKill σ Hst = true) (hH : H.Perm (resOf' Hst ++ Hm))
    (h : ∀ w', WK P n w0 F0 ops N Hst σ m Hm w') :
    W P n w0 F0 (.region id ops true) N R X m H w := fun a ha hh => by
  have hh' := (hh.perm hH).drew
  refine wp_region_any hm (wpAny_of_I _ _ _ _ (wk_sound (Hst0 := Hst) hns _ (fun _ _ _ h => h) (fun _ _ hq => hq) σ _ _ Hst m Hm a _ (Nat.le_of_ble_eq_true hlen) (by simp) hok ?_ (fun _ _ _ => rfl) ?_ ha hh' (h _) ?_))
  · intro j o _ hl
    simp only [Array.getD_eq_getD_getElem?, Array.getElem?_replicate] at hl
    split at hl <;> simp at hl
  · intro r e _
    simp only [Array.getD_eq_getD_getElem?, Array.getElem?_replicate]
    split <;> simp
  · intro i hi
    have := List.all_eq_true.1 hnk (i, true) hi
    simpa using this

variable {Hst : List KRes} {σ : List (Nat × Bool)} {i : Nat}

theorem wk_f (hi : ops[i]? = some ⟨some d, op, ty, pos, af, .none⟩) (h : Flt P n w0 F0 op ty m (readOk ops i Hst) v) (hk : WK P n w0 F0 ops N Hst σ ((d, v) :: m) H w)
    (hd : Nat.blt d n = true := by rfl) (hnk : noKill i Hst = true := by rfl) : WK P n w0 F0 ops N Hst ((i, true) :: σ) m H w :=
  ⟨d, op, ty, pos, af, .none, v, hi, hd, hnk, .inl ⟨h, .inl rfl⟩, hk⟩
theorem wk_e (hi : ops[i]? = some ⟨some d, op, ty, pos, af, .none⟩) (h : Eff P n w0 F0 op ty m (resOf' Hst ++ H) w Φ)
    (hk : ∀ v H' w', Φ v H' → ∃ H'', H'.Perm (resOf' (kill i Hst) ++ H'') ∧ WK P n w0 F0 ops N (kill i Hst) σ ((d, v) :: m) H'' w')
    (hd : Nat.blt d n = true := by rfl) : WK P n w0 F0 ops N Hst ((i, false) :: σ) m H w :=
  ⟨some d, op, ty, pos, af, hi, hd, Φ, h, hk⟩
theorem wk_e0 (hi : ops[i]? = some ⟨.none, op, ty, pos, af, .none⟩) (h : Eff P n w0 F0 op ty m (resOf' Hst ++ H) w Φ)
    (hk : ∀ v H' w', Φ v H' → ∃ H'', H'.Perm (resOf' (kill i Hst) ++ H'') ∧ WK P n w0 F0 ops N (kill i Hst) σ m H'' w') : WK P n w0 F0 ops N Hst ((i, false) :: σ) m H w :=
  ⟨.none, op, ty, pos, af, hi, trivial, Φ, h, hk⟩
theorem wk_end (m' : Env) (hs : Sub m' m) (h : N m' (resOf' Hst ++ H) w) : WK P n w0 F0 ops N Hst [] m H w := ⟨m', _, hs, ⟨[], by simp⟩, h⟩
theorem wk_endp (m' : Env) (is : List Nat) {L E : List Res} (hs : Sub m' m) (hp : pick is (resOf' Hst ++ H) = some (L, E)) (h : N m' L w) : WK P n w0 F0 ops N Hst [] m H w := ⟨m', L, hs, ⟨E, pick_perm _ _ hp⟩, h⟩
end
end Go.Proofs.YtmagdjlcckgkpaaGreat

/- The proof kit, ninth part: helpers. -/
namespace Go.Proofs.YtmagdjlcckgkpaaGreat
open Go.RowKit

/-- One resource comes first. -/
theorem pk1 (i : Nat) {H : List Res} {r : Res} {E : List Res} (hp : pick [i] H = some ([r], E)) : H.Perm (r :: E) := pick_perm [i] H hp
/-- What is left is held in some world. -/
theorem Eff.held {P : Program} {n : Nat} {w0 : World} {F0 : Nat → Prop} {op : Op} {ty : TypeId} {m : Env} {H : List Res} {w : World} {Φ : Value → List Res → Prop} (h : Eff P n w0 F0 op ty m H w Φ) :
    Eff P n w0 F0 op ty m H w (fun v H' => (∃ w', Holds w0 F0 H' w') ∧ Φ v H') := h.with_ fun _ _ w' hp hh => ⟨⟨w', hh⟩, hp⟩

/-! ### Several resources as one -/
def okL : List Res → World → Prop
  | [], _ => True
  | r :: L, w => r.ok w ∧ (∀ s ∈ L, ∀ k, r.foot k → ¬ s.foot k) ∧ okL L w
theorem okL_loc : ∀ (L : List Res) (w w' : World), (∀ k, feet L k → w'.heap[k]? = w.heap[k]?) → okL L w → okL L w'
  | [], _, _, _, _ => trivial
  | r :: L, w, w', h, ⟨h1, h2, h3⟩ => ⟨r.loc w w' (fun k hk => h k ⟨r, List.mem_cons_self .., hk⟩) h1, h2, okL_loc L w w' (fun k ⟨s, hs, hk⟩ => h k ⟨s, List.mem_cons_of_mem _ hs, hk⟩) h3⟩
def bun (L : List Res) : Res where
  foot := feet L
  ok := okL L
  loc := okL_loc L
theorem hs_okL {w0 w : World} {F0 : Nat → Prop} : ∀ {L : List Res}, Hs w0 F0 L w ↔ okL L w ∧ ∀ k, feet L k → k < w.heap.size ∧ (w0.heap.size ≤ k ∨ F0 k)
  | [] => ⟨fun _ => ⟨trivial, by rintro k ⟨r, hr, _⟩; cases hr⟩, fun _ => trivial⟩
  | r :: L => by
    have ih := hs_okL (w0 := w0) (w := w) (F0 := F0) (L := L)
    constructor
    · rintro ⟨⟨h1, h2, h3⟩, h4⟩
      obtain ⟨h5, h6⟩ := ih.1 h4
      refine ⟨⟨h1, h3, h5⟩, ?_⟩
      rintro k ⟨s, hs, hk⟩
      rcases List.mem_cons.1 hs with rfl | hs
      · exact h2 k hk
      · exact h6 k ⟨s, hs, hk⟩
    · rintro ⟨⟨h1, h3, h5⟩, h6⟩
      exact ⟨⟨h1, fun k hk => h6 k ⟨r, List.mem_cons_self .., hk⟩, h3⟩, ih.2 ⟨h5, fun k ⟨s, hs, hk⟩ => h6 k ⟨s, List.mem_cons_of_mem _ hs, hk⟩⟩⟩
theorem Holds.bun {w0 w : World} {F0 : Nat → Prop} {L H : List Res} : Holds w0 F0 (L ++ H) w ↔ Holds w0 F0 (bun L :: H) w := by
  unfold Holds
  refine and_congr_right fun _ => ?_
  rw [Hs.append]
  constructor
  · rintro ⟨h1, h2, h3⟩
    obtain ⟨h4, h5⟩ := hs_okL.1 h1
    refine ⟨⟨h4, h5, ?_⟩, h2⟩
    rintro s hs k ⟨r, hr, hk⟩
    exact h3 r hr s hs k hk
  · rintro ⟨⟨h4, h5, h6⟩, h2⟩
    exact ⟨hs_okL.2 ⟨h4, h5⟩, h2, fun r hr s hs k hk => h6 s hs k ⟨r, hr, hk⟩⟩
section
variable {P : Program} {n : Nat} {w0 : World} {F0 : Nat → Prop} {N R : Cond} {X : Nat → Cond} {m : Env} {H : List Res} {w : World}
theorem w_eqv {c : Code} {H' : List Res} (h : Holds w0 F0 H w → Holds w0 F0 H' w) (hw : W P n w0 F0 c N R X m H' w) : W P n w0 F0 c N R X m H w := fun a ha hh => hw a ha (h hh)
theorem w_bun {c : Code} (L : List Res) (hw : W P n w0 F0 c N R X m (bun L :: H) w) : W P n w0 F0 c N R X m (L ++ H) w := w_eqv Holds.bun.1 hw
theorem w_unb {c : Code} (L : List Res) (hw : W P n w0 F0 c N R X m (L ++ H) w) : W P n w0 F0 c N R X m (bun L :: H) w := w_eqv Holds.bun.2 hw
theorem wl_eqv {ops : Array Oper} {l : List Oper} {H' : List Res} (h : Holds w0 F0 H w → Holds w0 F0 H' w) (hw : WL P n w0 F0 ops N l m H' w) : WL P n w0 F0 ops N l m H w := fun a ha hh => hw a ha (h hh)
theorem wl_bun {ops : Array Oper} {l : List Oper} (L : List Res) (hw : WL P n w0 F0 ops N l m (bun L :: H) w) : WL P n w0 F0 ops N l m (L ++ H) w := wl_eqv Holds.bun.1 hw
theorem wl_unb {ops : Array Oper} {l : List Oper} (L : List Res) (hw : WL P n w0 F0 ops N l m (L ++ H) w) : WL P n w0 F0 ops N l m (bun L :: H) w := wl_eqv Holds.bun.2 hw
end

/-! ### Reading what is in a bundle -/
theorem okL_mem : ∀ {L : List Res} {w : World} {j : Nat} {r : Res}, okL L w → L[j]? = some r → r.ok w
  | [], _, _, _, _, h => by simp at h
  | s :: L, w, 0, r, h, hj => by simp at hj; subst hj; exact h.1
  | s :: L, w, j + 1, r, h, hj => okL_mem h.2.2 (by simpa using hj)
theorem Holds.okB {w0 w : World} {F0 : Nat → Prop} {H L : List Res} (hh : Holds w0 F0 H w) {i j : Nat} {r : Res} (hi : H[i]? = some (Proofs.YtmagdjlcckgkpaaGreat.bun L)) (hj : L[j]? = some r) : r.ok w := okL_mem (hh.ok hi) hj
theorem rowB_form {w0 w : World} {F0 : Nat → Prop} {H L : List Res} {e sz n : Nat} {v : Value} {xs : List Value} (hh : Holds w0 F0 H w) {i j : Nat} (hi : H[i]? = some (bun L)) (hj : L[j]? = some (row v e sz n xs)) (hn : 0 < n) : ∃ g cap, v = .slice (some ⟨g, 0, .none⟩) n cap := by
  have hok : w.ownsRow 0 e sz v n xs := hh.okB hi hj
  rcases hok.2 with ⟨_, h⟩ | ⟨g, cap, cur, h, _⟩
  · omega
  · exact ⟨g, cap, h⟩
theorem rowB_slice {w0 w : World} {F0 : Nat → Prop} {H L : List Res} {e sz n : Nat} {v : Value} {xs : List Value} (hh : Holds w0 F0 H w) {i j : Nat} (hi : H[i]? = some (bun L)) (hj : L[j]? = some (row v e sz n xs)) : ∃ A cap, v = .slice A n cap := by
  have hok : w.ownsRow 0 e sz v n xs := hh.okB hi hj
  rcases hok.2 with ⟨h, rfl⟩ | ⟨g, cap, cur, h, _⟩
  · exact ⟨_, _, h⟩
  · exact ⟨_, _, h⟩
theorem Rd.heldB {w0 w : World} {F0 : Nat → Prop} {H L : List Res} {e sz n : Nat} {v : Value} {xs : List Value} (hh : Holds w0 F0 H w) {i j : Nat} (hi : H[i]? = some (bun L)) (hj : L[j]? = some (row v e sz n xs)) : Rd w Nil sz v n xs := rd_row (hh.okB hi hj)
section
variable {P : Program} {n : Nat} {w0 : World} {F0 : Nat → Prop} {m : Env} {H L : List Res} {w : World} {ty : TypeId} {x : Operand} {v : Value} {t e sz : Nat}
theorem f_loadB {b off tb : Nat} {cs : List Value} {d : TypeDesc} (i j : Nat) (hx : ev m x = some (.pointer (some ⟨b, off, .none⟩))) (hi : H[i]? = some (bun L)) (hj : L[j]? = some (blk b cs tb)) (hd : P.underlying t = some d)
    (hagg : (match d with | .struct _ | .array _ _ => false | _ => true) = true) (hv : cs[off]? = some v) : Flt P n w0 F0 (.load t x) ty m H v :=
  f_load hx hd hagg fun w hh => by
    have hok : w.heap[b]? = some (.cells cs.toArray tb (0, 0)) := hh.okB hi hj
    rw [cell_of_row w b off cs.toArray tb (0, 0) hok]
    simpa using hv
theorem f_loadBr {g cap l off : Nat} {xs : List Value} {d : TypeDesc} (i j : Nat) (hx : ev m x = some (.pointer (some ⟨g, off, .none⟩))) (hi : H[i]? = some (bun L)) (hj : L[j]? = some (row (.slice (some ⟨g, 0, .none⟩) l cap) e sz l xs)) (hd : P.underlying t = some d)
    (hagg : (match d with | .struct _ | .array _ _ => false | _ => true) = true) (hv : xs[off]? = some v) : Flt P n w0 F0 (.load t x) ty m H v :=
  f_load hx hd hagg fun w hh => by
    have := (show w.ownsRow 0 e sz (.slice (some ⟨g, 0, .none⟩) l cap) l xs from hh.okB hi hj).cells (g := g) rfl off v hv
    rw [add_eq] at this
    simpa using this
theorem f_loadsBr {g cap l off : Nat} {cs xs : List Value} {d : TypeDesc} (i j : Nat) (hx : ev m x = some (.pointer (some ⟨g, off, .none⟩))) (hi : H[i]? = some (bun L)) (hj : L[j]? = some (row (.slice (some ⟨g, 0, .none⟩) l cap) e sz l xs)) (hd : P.underlying t = some d)
    (hagg : (match d with | .struct _ | .array _ _ => true | _ => false) = true) (hs : (P.info? t).map (·.size) = some cs.length) (hv : (xs.drop off).take cs.length = cs) : Flt P n w0 F0 (.load t x) ty m H (.agg cs.toArray) :=
  f_loads hx hd hagg hs fun w hh j' u hu => by
    have hj' : j' < cs.length := (List.getElem?_eq_some_iff.1 hu).1
    rw [← hv, List.getElem?_take, if_pos (by omega), List.getElem?_drop] at hu
    have := (show w.ownsRow 0 e sz (.slice (some ⟨g, 0, .none⟩) l cap) l xs from hh.okB hi hj).cells (g := g) rfl (off + j') u hu
    rw [add_eq] at this
    simpa using this
end

/-! ### By any place -/
def splitR : Nat → List Res → Option (List Res × Res × List Res)
  | _, [] => .none
  | 0, r :: l => some ([], r, l)
  | i + 1, r :: l => match splitR i l with
    | some (a, s, b) => some (r :: a, s, b)
    | .none => .none
theorem splitR_eq : ∀ (i : Nat) (H : List Res) {a b : List Res} {r : Res}, splitR i H = some (a, r, b) → H = a ++ r :: b
  | _, [], _, _, _, h => by simp [splitR] at h
  | 0, r :: l, _, _, _, h => by simp only [splitR, Option.some.injEq, Prod.mk.injEq] at h; obtain ⟨rfl, rfl, rfl⟩ := h; rfl
  | i + 1, s :: l, a, b, r, h => by
    simp only [splitR] at h
    split at h
    · rename_i a' r' b' hq
      simp only [Option.some.injEq, Prod.mk.injEq] at h
      obtain ⟨rfl, rfl, rfl⟩ := h
      rw [splitR_eq i l hq]; rfl
    · cases h
section
variable {P : Program} {n : Nat} {w0 : World} {F0 : Nat → Prop} {m : Env} {H H1 H2 : List Res} {w : World} {ty : TypeId}
  {x y : Operand} {v : Value} {t e sz bytes : Nat} {z : Value}
theorem e_appN (i : Nat) {l c : Nat} {xs news : List Value} {xv : Value} (T : SlT P t e sz bytes z) (hx : ev m x = some v) (hy : ev m y = some xv) (hi : splitR i H = some (H1, row v e sz l xs, H2))
    (hr : ∀ w, Holds w0 F0 H w → Rd w Nil sz xv c news) (h1 : ∀ u ∈ news, u.oneCell' = true) (hbytes : (l + c) * bytes ≤ 140737488355328) (h63 : l + c ≤ 140737488355328) :
    Eff P n w0 F0 (.call { callee := .builtin .append, args := #[x, y], argTypes := #[t, t] }) ty m H w (fun u H' => (∃ A cap, u = .slice A (l + c) cap) ∧ H' = H1 ++ row u e sz (l + c) (xs ++ news) :: H2) :=
  (e_app H1 H2 T hx hy (splitR_eq i H hi) hr h1 hbytes h63).with_ fun v H' w' hH hh => ⟨by
    subst hH
    exact row_slice (hh.drop_ (List.sublist_append_right _ _)) (i := 0) rfl, hH⟩
theorem e_storeN (i : Nat) {bb off tb : Nat} {cs cs' us : List Value} (hx : ev m x = some (.pointer (some ⟨bb, off, .none⟩))) (hy : ev m y = some v) (hi : splitR i H = some (H1, blk bb cs tb, H2)) (hv : v.cells = us.toArray) (hs : (P.info? t).map (·.size) = some us.length)
    (h1 : ∀ u ∈ us, u.oneCell' = true) (hl : Nat.ble (off + us.length) cs.length = true) (hcs : cs.take off ++ us ++ cs.drop (off + us.length) = cs') :
    Eff P n w0 F0 (.store t x y) ty m H w (fun _ H' => H' = H1 ++ blk bb cs' tb :: H2) :=
  e_store H1 H2 hx hy hv hs h1 (Nat.le_of_ble_eq_true hl) hcs (splitR_eq i H hi)
theorem e_storerN (i : Nat) {g cap l off : Nat} {xs xs' us : List Value} (hx : ev m x = some (.pointer (some ⟨g, off, .none⟩))) (hy : ev m y = some v) (hi : splitR i H = some (H1, row (.slice (some ⟨g, 0, .none⟩) l cap) e sz l xs, H2)) (hv : v.cells = us.toArray) (hs : (P.info? t).map (·.size) = some us.length)
    (h1 : ∀ u ∈ us, u.oneCell' = true) (hl : off + us.length ≤ xs.length) (hcs : xs.take off ++ us ++ xs.drop (off + us.length) = xs') :
    Eff P n w0 F0 (.store t x y) ty m H w (fun _ H' => H' = H1 ++ row (.slice (some ⟨g, 0, .none⟩) l cap) e sz l xs' :: H2) :=
  e_storer H1 H2 hx hy hv hs h1 hl hcs (splitR_eq i H hi)
end
end Go.Proofs.YtmagdjlcckgkpaaGreat

/- The proof kit, eleventh part: helpers. -/
namespace Go.Proofs.YtmagdjlcckgkpaaGreat
open Go.RowKit

section
variable {P : Program} {n : Nat} {w0 : World} {F0 : Nat → Prop} {m : Env} {H L : List Res} {w : World} {ty : TypeId} {x : Operand} {v : Value} {t e sz : Nat}
/-- An element of one cell. -/
theorem f_loadBr1 {g cap l off : Nat} {xs : List Value} {d : TypeDesc} (i j : Nat) (hx : ev m x = some (.pointer (some ⟨g, off, .none⟩))) (hi : H[i]? = some (bun L)) (hj : L[j]? = some (row (.slice (some ⟨g, 0, .none⟩) l cap) e sz l xs)) (hd : P.underlying t = some d)
    (hagg : (match d with | .struct _ | .array _ _ => false | _ => true) = true) (hv : (xs.drop off).take 1 = [v]) : Flt P n w0 F0 (.load t x) ty m H v :=
  f_loadBr i j hx hi hj hd hagg (by
    have h : ((xs.drop off).take 1)[0]? = some v := by rw [hv]; rfl
    rw [List.getElem?_take, if_pos (by omega), List.getElem?_drop] at h
    exact h)
theorem f_loadr1 {g cap l off : Nat} {xs : List Value} {d : TypeDesc} (i : Nat) (hx : ev m x = some (.pointer (some ⟨g, off, .none⟩))) (hd : P.underlying t = some d)
    (hagg : (match d with | .struct _ | .array _ _ => false | _ => true) = true) (hi : H[i]? = some (row (.slice (some ⟨g, 0, .none⟩) l cap) e sz l xs)) (hv : (xs.drop off).take 1 = [v]) : Flt P n w0 F0 (.load t x) ty m H v :=
  f_loadr i hx hd hagg hi (by
    have h : ((xs.drop off).take 1)[0]? = some v := by rw [hv]; rfl
    rw [List.getElem?_take, if_pos (by omega), List.getElem?_drop] at h
    exact h)
theorem eq_bool (w : World) (d : Nat) (t : TypeId) (p q : Bool) (h : P.underlying t = some .bool) : (Op.equalIn (d + 1) t (.bool p) (.bool q)).run P w = .ok (p == q) w := by simp [Op.equalIn, run_underlying h]
theorem f_eqlb {xt yt : TypeId} {y : Operand} {p q : Bool} (hx : ev m x = some (.bool p)) (hy : ev m y = some (.bool q)) (ht : P.underlying xt = some .bool) : Flt P n w0 F0 (.binOp .eql xt x y yt) ty m H (.bool (p == q)) :=
  f_bin hx hy guard_bool fun w => by
    have h' : (Op.equal xt (.bool p) (.bool q)).run P w = .ok (p == q) w := eq_bool w 9999 xt p q ht
    simp [binOp, h']
theorem f_neqb {xt yt : TypeId} {y : Operand} {p q : Bool} (hx : ev m x = some (.bool p)) (hy : ev m y = some (.bool q)) (ht : P.underlying xt = some .bool) : Flt P n w0 F0 (.binOp .neq xt x y yt) ty m H (.bool (p != q)) :=
  f_bin hx hy guard_bool fun w => by
    have h' : (Op.equal xt (.bool p) (.bool q)).run P w = .ok (p == q) w := eq_bool w 9999 xt p q ht
    simp [binOp, h', bne]
end
section
variable {P : Program} {n : Nat} {w0 : World} {F0 : Nat → Prop} {N R : Cond} {X : Nat → Cond} {m : Env} {H L : List Res} {r : Res} {w : World}
theorem w_scope {c : Code} (h : W P n w0 F0 c N R X m H w) : W P n w0 F0 (.scope c) N R X m H w := fun a ha hh =>
  wp_scope_straight (wp_mono (h a ha hh) fun e a' w' hq => by cases e <;> exact hq)
theorem w_label {l : Nat} (h : N m H w) : W P n w0 F0 (.label l) N R X m H w := fun _ ha hh => wp_label ⟨m, H, ha, hh, h⟩
theorem Holds.snoc : Holds w0 F0 (Proofs.YtmagdjlcckgkpaaGreat.bun L :: r :: H) w ↔ Holds w0 F0 (Proofs.YtmagdjlcckgkpaaGreat.bun (L ++ [r]) :: H) w := by
  rw [← Holds.bun, ← Holds.bun, List.append_assoc, List.singleton_append]
theorem w_snoc {c : Code} (h : W P n w0 F0 c N R X m (bun (L ++ [r]) :: H) w) : W P n w0 F0 c N R X m (bun L :: r :: H) w := w_eqv Holds.snoc.1 h
theorem wl_snoc {ops : Array Oper} {l : List Oper} (h : WL P n w0 F0 ops N l m (bun (L ++ [r]) :: H) w) : WL P n w0 F0 ops N l m (bun L :: r :: H) w := wl_eqv Holds.snoc.1 h
theorem Holds.bun0 (h : Holds w0 F0 H w) : Holds w0 F0 (Proofs.YtmagdjlcckgkpaaGreat.bun [] :: H) w := Holds.bun.1 h
theorem w_bun0 {c : Code} (h : W P n w0 F0 c N R X m (bun [] :: H) w) : W P n w0 F0 c N R X m H w := w_eqv Holds.bun0 h
end
theorem flatMap_single {α β : Type} (f : α → β) (l : List α) : (l.flatMap fun s => [f s]) = l.map f := by
  induction l with
  | nil => rfl
  | cons a l ih => simp [ih]
end Go.Proofs.YtmagdjlcckgkpaaGreat

/- Tables with open places: the plain facts. -/
namespace Go.Proofs.YtmagdjlcckgkpaaGreat
open Go.RowKit

/-! ### Places in a circle -/
def adv (N h i : Nat) : Nat := if h + i < N then h + i else h + i - N
def dst (N h p : Nat) : Nat := if h ≤ p then p - h else p + N - h
theorem adv_lt {N h i : Nat} (h1 : h < N) (h2 : i < N) : adv N h i < N := by unfold adv; split <;> omega
theorem dst_lt {N h p : Nat} (h1 : h < N) (h2 : p < N) : dst N h p < N := by unfold dst; split <;> omega
theorem adv_dst {N h p : Nat} (h1 : h < N) (h2 : p < N) : adv N h (dst N h p) = p := by unfold adv dst; split <;> split <;> omega
theorem dst_adv {N h i : Nat} (h1 : h < N) (h2 : i < N) : dst N h (adv N h i) = i := by unfold adv dst; split <;> split <;> omega
theorem adv_adv {N h i j : Nat} (h1 : h < N) (h2 : i + j < N) : adv N (adv N h i) j = adv N h (i + j) := by unfold adv; split <;> split <;> split <;> omega
theorem adv_zero {N h : Nat} (h1 : h < N) : adv N h 0 = h := by unfold adv; split <;> omega
theorem adv_ne {N h i : Nat} (h1 : h < N) (h2 : i < N) (h3 : 1 ≤ i) : adv N h i ≠ h := by unfold adv; split <;> omega
theorem adv_inj {N h i j : Nat} (h1 : h < N) (h2 : i < N) (h3 : j < N) (e : adv N h i = adv N h j) : i = j := by
  have := dst_adv h1 h2; rw [e, dst_adv h1 h3] at this; omega
theorem dst_self {N h : Nat} : dst N h h = 0 := by unfold dst; split <;> omega
theorem dst_pos {N h p : Nat} (h1 : h < N) (h2 : p < N) (h3 : p ≠ h) : 1 ≤ dst N h p := by unfold dst; split <;> omega
theorem dst_add {N h g p : Nat} (h1 : h < N) (h2 : g < N) (h3 : p < N) (h4 : dst N h g < dst N h p) : dst N h p = dst N h g + dst N g p := by
  unfold dst at *; split at h4 <;> split at h4 <;> (repeat' split) <;> omega
theorem adv_mod {N h i : Nat} (h1 : h < N) (h2 : i < N) : (h + i) % N = adv N h i := by
  unfold adv
  split
  · exact Nat.mod_eq_of_lt ‹_›
  · rw [Nat.mod_eq_sub_mod (by omega), Nat.mod_eq_of_lt (by omega)]
theorem dst_mod {N h p : Nat} (h1 : h < N) (h2 : p < N) : (p + N - h) % N = dst N h p := by
  unfold dst
  split
  · rw [Nat.mod_eq_sub_mod (by omega), show p + N - h - N = p - h by omega, Nat.mod_eq_of_lt (by omega)]
  · exact Nat.mod_eq_of_lt (by omega)
/-- What a test of distances is when it is read in whole numbers. -/
theorem dst_int {N h p : Nat} (h1 : h < N) (h2 : p < N) : ((p : Int) - h + N) % N = (dst N h p : Nat) := by
  rw [← dst_mod h1 h2, show ((p : Int) - h + N) = ((p + N - h : Nat) : Int) by omega]
  exact (Int.natCast_emod _ _).symm
theorem adv_int {N p : Nat} (h1 : p < N) (h2 : 1 < N) : ((p : Int) + 1) % N = (adv N p 1 : Nat) := by
  rw [← adv_mod h1 h2, Int.natCast_emod]
  rfl

/-! ### A table -/
section
variable {α : Type}
abbrev Cells (α : Type) := List (Option (ByteArray × α))
def ents (cs : Cells α) : List (ByteArray × α) := cs.filterMap id
def keys (l : List (ByteArray × α)) : List ByteArray := l.map Prod.fst
def Occ (cs : Cells α) (p : Nat) : Prop := ∃ x, cs[p]? = some (some x)
theorem ents_app (a b : Cells α) : ents (a ++ b) = ents a ++ ents b := by simp [ents]
theorem ents_some (x : ByteArray × α) (b : Cells α) : ents (some x :: b) = x :: ents b := rfl
theorem ents_none (b : Cells α) : ents (none :: b) = ents b := rfl
theorem ents_len (cs : Cells α) : (ents cs).length ≤ cs.length := List.length_filterMap_le ..
theorem mem_ents {cs : Cells α} {x : ByteArray × α} : x ∈ ents cs ↔ ∃ p : Nat, cs[p]? = some (some x) := by
  rw [ents, List.mem_filterMap]
  constructor
  · rintro ⟨a, ha, rfl⟩; exact List.mem_iff_getElem?.1 ha
  · rintro ⟨p, hp⟩; exact ⟨_, List.mem_iff_getElem?.2 ⟨p, hp⟩, rfl⟩
theorem split_at {β : Type} {cs : List β} {p : Nat} {a : β} (h : cs[p]? = some a) : ∃ A B, cs = A ++ a :: B ∧ A.length = p := by
  obtain ⟨hp, rfl⟩ := List.getElem?_eq_some_iff.1 h
  exact ⟨cs.take p, cs.drop (p + 1), by rw [← List.drop_eq_getElem_cons hp, List.take_append_drop], by rw [List.length_take]; omega⟩
theorem set_split {β : Type} {A B : List β} {a b : β} : (A ++ a :: B).set A.length b = A ++ b :: B := by simp
/-- A free place, as long as not all are used. -/
theorem free_place {cs : Cells α} (h : (ents cs).length < cs.length) : ∃ p, p < cs.length ∧ cs[p]? = some none := by
  induction cs with
  | nil => simp [ents] at h
  | cons o cs ih =>
    cases o with
    | none => exact ⟨0, by simp, rfl⟩
    | some x =>
      rw [ents_some, List.length_cons, List.length_cons] at h
      obtain ⟨p, h1, h2⟩ := ih (by omega)
      exact ⟨p + 1, by rw [List.length_cons]; omega, by rw [List.getElem?_cons_succ]; exact h2⟩
theorem ents_set_none {cs : Cells α} {p : Nat} {x : ByteArray × α} (h : cs[p]? = some (some x)) : (ents cs).Perm (x :: ents (cs.set p none)) := by
  obtain ⟨A, B, rfl, rfl⟩ := split_at h
  rw [set_split, ents_app, ents_some, ents_app, ents_none]
  exact List.perm_middle
theorem ents_set_some {cs : Cells α} {p : Nat} {x : ByteArray × α} (h : cs[p]? = some none) : (ents (cs.set p (some x))).Perm (x :: ents cs) := by
  obtain ⟨A, B, rfl, rfl⟩ := split_at h
  rw [set_split, ents_app, ents_some, ents_app, ents_none]
  exact List.perm_middle
theorem ents_set_over {cs : Cells α} {p : Nat} {x y : ByteArray × α} (h : cs[p]? = some (some y)) : (ents (cs.set p (some x))).Perm (x :: ents (cs.set p none)) := by
  obtain ⟨A, B, rfl, rfl⟩ := split_at h
  rw [set_split, set_split, ents_app, ents_some, ents_app, ents_none]
  exact List.perm_middle

/-- Each key is found from its home on. -/
structure TInv (hf : ByteArray → Nat) (N : Nat) (cs : Cells α) : Prop where
  len : cs.length = N
  nd : (keys (ents cs)).Nodup
  run : ∀ p k v, cs[p]? = some (some (k, v)) → ∀ i < dst N (hf k) p, Occ cs (adv N (hf k) i)
variable {hf : ByteArray → Nat} {N g j : Nat} {cs : Cells α}
theorem occ_lt {p : Nat} (h : Occ cs p) : p < cs.length := by obtain ⟨x, hx⟩ := h; exact (List.getElem?_eq_some_iff.1 hx).1
theorem TInv.new (N : Nat) : TInv hf N (List.replicate N (none : Option (ByteArray × α))) := by
  have : ents (List.replicate N (none : Option (ByteArray × α))) = [] := by
    induction N with
    | zero => rfl
    | succ N ih => rw [List.replicate_succ, ents_none, ih]
  refine ⟨List.length_replicate, by rw [this]; exact List.nodup_nil, fun p k v h => ?_⟩
  rw [List.getElem?_replicate] at h
  split at h <;> cases h
/-- A search that ends at a free place: the key is not there. -/
theorem TInv.absent (h : TInv hf N cs) {k : ByteArray} {i : Nat} (hk : hf k < N) (hi : i < N) (he : cs[adv N (hf k) i]? = some none) (hn : ∀ j < i, ∀ v, cs[adv N (hf k) j]? ≠ some (some (k, v))) : k ∉ keys (ents cs) := by
  intro hm
  obtain ⟨⟨k', v⟩, hx, rfl⟩ := List.mem_map.1 hm
  obtain ⟨p, hp⟩ := mem_ents.1 hx
  dsimp only at hk hi he hn
  have hpN : p < N := by rw [← h.len]; exact (List.getElem?_eq_some_iff.1 hp).1
  have hd := adv_dst hk hpN
  have hdl := dst_lt hk hpN
  rcases Nat.lt_trichotomy (dst N (hf k') p) i with hlt | heq | hgt
  · exact hn _ hlt v (by rw [hd]; exact hp)
  · rw [← heq, hd, hp] at he; cases he
  · obtain ⟨x, hx⟩ := h.run p k' v hp i hgt
    rw [he] at hx; cases hx
theorem keys_perm {a b : List (ByteArray × α)} (h : a.Perm b) : (keys a).Perm (keys b) := h.map _
theorem TInv.put (h : TInv hf N cs) {k : ByteArray} {v : α} {i : Nat} (hk : hf k < N) (hi : i < N) (he : cs[adv N (hf k) i]? = some none) (hn : k ∉ keys (ents cs)) (hr : ∀ j < i, Occ cs (adv N (hf k) j)) :
    TInv hf N (cs.set (adv N (hf k) i) (some (k, v))) := by
  have hlt : adv N (hf k) i < cs.length := (List.getElem?_eq_some_iff.1 he).1
  have hocc : ∀ q, Occ cs q → Occ (cs.set (adv N (hf k) i) (some (k, v))) q := fun q ⟨x, hx⟩ => by
    by_cases e : adv N (hf k) i = q
    · subst e; exact ⟨_, List.getElem?_set_self hlt⟩
    · exact ⟨x, by rw [List.getElem?_set_ne e]; exact hx⟩
  refine ⟨by rw [List.length_set]; exact h.len, ?_, fun p k' v' hp j hj => ?_⟩
  · exact (keys_perm (ents_set_some he)).nodup_iff.2 (List.nodup_cons.2 ⟨hn, h.nd⟩)
  · by_cases e : adv N (hf k) i = p
    · subst e
      rw [List.getElem?_set_self hlt] at hp
      injection hp with hp; injection hp with hp; injection hp with h1 h2
      subst h1
      rw [dst_adv hk hi] at hj
      exact hocc _ (hr j hj)
    · rw [List.getElem?_set_ne e] at hp
      exact hocc _ (h.run p k' v' hp j hj)
theorem TInv.over (h : TInv hf N cs) {k : ByteArray} {v v0 : α} {p : Nat} (hp : cs[p]? = some (some (k, v0))) : TInv hf N (cs.set p (some (k, v))) := by
  have hlt : p < cs.length := (List.getElem?_eq_some_iff.1 hp).1
  have hocc : ∀ q, Occ cs q → Occ (cs.set p (some (k, v))) q := fun q ⟨x, hx⟩ => by
    by_cases e : p = q
    · subst e; exact ⟨_, List.getElem?_set_self hlt⟩
    · exact ⟨x, by rw [List.getElem?_set_ne e]; exact hx⟩
  refine ⟨by rw [List.length_set]; exact h.len, ?_, fun p' k' v' hp' j hj => ?_⟩
  · have h1 := (keys_perm (ents_set_over (x := (k, v)) hp)).nodup_iff
    have h2 := (keys_perm (ents_set_none hp)).nodup_iff
    exact h1.2 (h2.1 h.nd)
  · by_cases e : p = p'
    · subst e
      rw [List.getElem?_set_self hlt] at hp'
      injection hp' with hp'; injection hp' with hp'; injection hp' with h1 h2
      subst h1
      exact hocc _ (h.run p _ v0 hp j hj)
    · rw [List.getElem?_set_ne e] at hp'
      exact hocc _ (h.run p' k' v' hp' j hj)

/-! ### Taking out: the gap g is filled from behind; the places g + 1 .. g + j - 1 are seen -/
structure GInv (hf : ByteArray → Nat) (N : Nat) (cs : Cells α) (g j : Nat) : Prop where
  len : cs.length = N
  occ : Occ cs g
  nd : (keys (ents (cs.set g none))).Nodup
  run : ∀ p k v, p ≠ g → cs[p]? = some (some (k, v)) → ∀ i < dst N (hf k) p, adv N (hf k) i = g ∨ Occ cs (adv N (hf k) i)
  seen : ∀ t, 1 ≤ t → t < j → ∀ k v, cs[adv N g t]? = some (some (k, v)) → dst N (hf k) (adv N g t) < t
theorem GInv.start (h : TInv hf N cs) {p : Nat} {x : ByteArray × α} (hp : cs[p]? = some (some x)) : GInv hf N cs p 1 :=
  ⟨h.len, ⟨x, hp⟩, (List.nodup_cons.1 ((keys_perm (ents_set_none hp)).nodup_iff.1 h.nd)).2, fun p' k v _ hp' i hi => .inr (h.run p' k v hp' i hi), fun t h1 h2 => by omega⟩
theorem GInv.done (h : GInv hf N cs g j) (hh : ∀ k, hf k < N) (h1 : 1 ≤ j) (hj : j < N) (he : cs[adv N g j]? = some none) : TInv hf N (cs.set g none) := by
  have hg : g < cs.length := occ_lt h.occ
  have hgN : g < N := h.len ▸ hg
  refine ⟨by rw [List.length_set]; exact h.len, h.nd, fun p k v hp i hi => ?_⟩
  have hpg : p ≠ g := fun e => by subst e; rw [List.getElem?_set_self hg] at hp; cases hp
  rw [List.getElem?_set_ne hpg.symm] at hp
  have hpN : p < N := by rw [← h.len]; exact (List.getElem?_eq_some_iff.1 hp).1
  have hk := hh k
  have hdp := dst_lt hk hpN
  have hne : adv N (hf k) i ≠ g := fun e => by
    have hi' : i = dst N (hf k) g := by rw [← e, dst_adv hk (by omega)]
    have hadd := dst_add hk hgN hpN (by omega)
    have ht1 := dst_pos hgN hpN hpg
    have htN := dst_lt hgN hpN
    rcases Nat.lt_trichotomy (dst N g p) j with hlt | heq | hgt
    · have := h.seen (dst N g p) ht1 hlt k v (by rw [adv_dst hgN hpN]; exact hp)
      rw [adv_dst hgN hpN] at this
      omega
    · rw [← heq, adv_dst hgN hpN, hp] at he; cases he
    · have hrun := h.run p k v hpg hp (i + j) (by omega)
      rw [← adv_adv hk (by omega), e] at hrun
      rcases hrun with hr | ⟨x, hx⟩
      · exact adv_ne hgN hj h1 hr
      · rw [he] at hx; cases hx
  rcases h.run p k v hpg hp i hi with e | ⟨x, hx⟩
  · exact absurd e hne
  · exact ⟨x, by rw [List.getElem?_set_ne hne.symm]; exact hx⟩
theorem GInv.pass (h : GInv hf N cs g j) {k : ByteArray} {v : α} (hx : cs[adv N g j]? = some (some (k, v))) (hd : dst N (hf k) (adv N g j) < j) : GInv hf N cs g (j + 1) :=
  ⟨h.len, h.occ, h.nd, h.run, fun t h1 h2 k' v' ht => by
    rcases Nat.lt_or_eq_of_le (Nat.le_of_lt_succ h2) with h2 | rfl
    · exact h.seen t h1 h2 k' v' ht
    · rw [hx] at ht; injection ht with ht; injection ht with ht; injection ht with e1 _; subst e1; exact hd⟩
theorem GInv.move (h : GInv hf N cs g j) (hh : ∀ k, hf k < N) (h1 : 1 ≤ j) (hj : j < N) {k : ByteArray} {v : α} (hx : cs[adv N g j]? = some (some (k, v))) (hd : j ≤ dst N (hf k) (adv N g j)) :
    GInv hf N (cs.set g (some (k, v))) (adv N g j) 1 ∧ (ents ((cs.set g (some (k, v))).set (adv N g j) none)).Perm (ents (cs.set g none)) := by
  have hg : g < cs.length := occ_lt h.occ
  have hgN : g < N := h.len ▸ hg
  have hnN := adv_lt hgN hj
  have hng := adv_ne hgN hj h1
  have hk := hh k
  have hocc : ∀ q, Occ cs q → Occ (cs.set g (some (k, v))) q := fun q ⟨x, hx⟩ => by
    by_cases e : g = q
    · subst e; exact ⟨_, List.getElem?_set_self hg⟩
    · exact ⟨x, by rw [List.getElem?_set_ne e]; exact hx⟩
  have hperm : (ents ((cs.set g (some (k, v))).set (adv N g j) none)).Perm (ents (cs.set g none)) := by
    have e1 : (cs.set g none)[adv N g j]? = some (some (k, v)) := by rw [List.getElem?_set_ne hng.symm]; exact hx
    have p1 := ents_set_none e1
    have e2 : ((cs.set g none).set (adv N g j) none)[g]? = some none := by rw [List.getElem?_set_ne hng, List.getElem?_set_self hg]
    have p2 := ents_set_some (x := (k, v)) e2
    have e3 : ((cs.set g none).set (adv N g j) none).set g (some (k, v)) = (cs.set g (some (k, v))).set (adv N g j) none := by
      rw [List.set_comm _ _ hng, List.set_set]
    rw [e3] at p2
    exact p2.trans p1.symm
  refine ⟨⟨by rw [List.length_set]; exact h.len, hocc _ ⟨_, hx⟩, (keys_perm hperm).nodup_iff.2 h.nd, fun p k' v' hpn hp i hi => ?_, fun t h1 h2 => by omega⟩, hperm⟩
  by_cases e : g = p
  · subst e
    rw [List.getElem?_set_self hg] at hp
    injection hp with hp; injection hp with hp; injection hp with e1 _
    subst e1
    -- the run of the moved key ends at the gap, within its old run
    have hdn := dst_lt hk hnN
    have hgd : dst N (hf k) g < dst N (hf k) (adv N g j) ∧ dst N (hf k) (adv N g j) = dst N (hf k) g + j := by
      have e2 : dst N g (adv N g j) = j := dst_adv hgN hj
      unfold dst at *
      split at hd <;> split at e2 <;> (repeat' split) <;> omega
    rcases h.run _ k v hng hx i (by omega) with e2 | ho
    · exfalso
      have := dst_adv hk (show i < N by omega)
      rw [e2] at this
      omega
    · exact .inr (hocc _ ho)
  · rw [List.getElem?_set_ne e] at hp
    rcases h.run p k' v' (Ne.symm e) hp i hi with e2 | ho
    · exact .inr ⟨_, by rw [e2]; exact List.getElem?_set_self hg⟩
    · exact .inr (hocc _ ho)
end
end Go.Proofs.YtmagdjlcckgkpaaGreat

/- Linked lists: what the arrays say. No program is in sight. -/
namespace Go.Proofs.YtmagdjlcckgkpaaGreat
open Go.RowKit

def hdE (e : Int) : List Nat → Int
  | [] => e
  | a :: _ => (a : Int)
/-- Each node's cell has the next node, the last one's the end. -/
def Lk (f : List Int) (e : Int) : List Nat → Prop
  | [] => True
  | a :: l => f[a]? = some (hdE e l) ∧ Lk f e l

theorem hdE_append (e : Int) (A B : List Nat) : hdE e (A ++ B) = hdE (hdE e B) A := by cases A <;> rfl
theorem Lk_append (f : List Int) (e : Int) : ∀ (A B : List Nat), Lk f e (A ++ B) ↔ Lk f (hdE e B) A ∧ Lk f e B
  | [], B => by simp [Lk]
  | a :: A, B => by
    simp only [List.cons_append, Lk, Lk_append f e A B, hdE_append, and_assoc]
theorem Lk_set_ne {f : List Int} {e v : Int} {a : Nat} : ∀ {l : List Nat}, a ∉ l → (Lk (f.set a v) e l ↔ Lk f e l)
  | [], _ => Iff.rfl
  | b :: l, h => by
    have hb : a ≠ b := fun e => h (by simp [e])
    simp only [Lk]
    rw [List.getElem?_set_ne hb, Lk_set_ne (fun hl => h (List.mem_cons_of_mem _ hl))]
theorem Lk_push {f : List Int} {e v : Int} : ∀ {l : List Nat}, Lk f e l → Lk (f ++ [v]) e l
  | [], _ => trivial
  | b :: l, h => ⟨by rw [List.getElem?_append_left (List.getElem?_eq_some_iff.1 h.1).1]; exact h.1, Lk_push h.2⟩
/-- Another end. -/
theorem Lk_last {f : List Int} {e e' : Int} {a : Nat} {A : List Nat} (h : Lk f e (A ++ [a])) (ha : a ∉ A) : Lk (f.set a e') e' (A ++ [a]) := by
  rw [Lk_append] at h ⊢
  refine ⟨(Lk_set_ne ha).2 h.1, ?_, trivial⟩
  have hlt := (List.getElem?_eq_some_iff.1 h.2.1).1
  simp [hdE, hlt]
/-- The array, in which the cell of the last node of A (if any) is set. -/
def setLast (f : List Int) (A : List Nat) (v : Int) : List Int := match A.reverse with | [] => f | a :: _ => f.set a v
theorem Lk_setLast {f : List Int} {e e' : Int} {A : List Nat} (h : Lk f e A) (hn : A.Nodup) : Lk (setLast f A e') e' A := by
  rcases List.eq_nil_or_concat A with rfl | ⟨A', a, rfl⟩
  · trivial
  · rw [List.concat_eq_append] at *
    have : a ∉ A' := by rw [List.nodup_append] at hn; exact fun h => hn.2.2 a h a (by simp) rfl
    simpa [setLast] using Lk_last (e' := e') h this
theorem Lk_setLast_ne {f : List Int} {e v : Int} {A l : List Nat} (hd : ∀ x ∈ A, x ∉ l) : Lk (setLast f A v) e l ↔ Lk f e l := by
  unfold setLast
  split
  · exact Iff.rfl
  · rename_i a r h
    exact Lk_set_ne (hd a (by have : a ∈ A.reverse := by rw [h]; simp
                              simpa using this))
theorem setLast_length (f : List Int) (A : List Nat) (v : Int) : (setLast f A v).length = f.length := by
  unfold setLast; split <;> simp
/-- A node is put between A and B. -/
theorem Lk_insert {f : List Int} {e : Int} {A B : List Nat} {x : Nat} (h : Lk f e (A ++ B)) (hn : (A ++ B).Nodup) (hx : x ∉ A ++ B) (hlt : x < f.length) :
    Lk (setLast (f.set x (hdE e B)) A x) e (A ++ x :: B) := by
  rw [List.mem_append, not_or] at hx
  rw [List.nodup_append] at hn
  rw [Lk_append] at h
  rw [Lk_append]
  refine ⟨Lk_setLast (e := hdE e B) ((Lk_set_ne hx.1).2 h.1) hn.1, ?_⟩
  refine (Lk_setLast_ne (fun y hy => ?_)).2 ⟨by simp [hlt], (Lk_set_ne hx.2).2 h.2⟩
  rw [List.mem_cons, not_or]
  exact ⟨fun e => hx.1 (e ▸ hy), fun hb => hn.2.2 y hy y hb rfl⟩
/-- A node is taken out. -/
theorem Lk_remove {f : List Int} {e : Int} {A B : List Nat} {x : Nat} (h : Lk f e (A ++ x :: B)) (hn : (A ++ x :: B).Nodup) : Lk (setLast f A (hdE e B)) e (A ++ B) := by
  rw [List.nodup_append] at hn
  rw [Lk_append] at h
  rw [Lk_append]
  refine ⟨Lk_setLast h.1 hn.1, (Lk_setLast_ne fun y hy hb => hn.2.2 y hy y (List.mem_cons_of_mem _ hb) rfl).2 h.2.2⟩
theorem Lk_get {f : List Int} {e : Int} {A B : List Nat} {x : Nat} (h : Lk f e (A ++ x :: B)) : f[x]? = some (hdE e B) := ((Lk_append ..).1 h).2.1
theorem Lk_lt {f : List Int} {e : Int} : ∀ {l : List Nat}, Lk f e l → ∀ x ∈ l, x < f.length
  | [], _, x, hx => by cases hx
  | a :: l, h, x, hx => by
    rcases List.mem_cons.1 hx with rfl | hx
    · exact (List.getElem?_eq_some_iff.1 h.1).1
    · exact Lk_lt h.2 x hx

theorem nodup_subset_len : ∀ (A B : List Nat), A.Nodup → (∀ x ∈ A, x ∈ B) → A.length ≤ B.length
  | [], _, _, _ => Nat.zero_le _
  | a :: A, B, hn, hs => by
    rw [List.nodup_cons] at hn
    have ha := hs a (List.mem_cons_self ..)
    have ih := nodup_subset_len A (B.erase a) hn.2 fun x hx => (List.mem_erase_of_ne (show x ≠ a from fun e => hn.1 (e ▸ hx))).2 (hs x (List.mem_cons_of_mem _ hx))
    rw [List.length_erase_of_mem ha] at ih
    have := List.length_pos_of_mem ha
    simp only [List.length_cons]
    omega
/-! ### The state of a list -/
section
variable {α : Type}
/-- The least number that no node has. -/
def Fresh (N : List Nat) (x : Nat) : Prop := x ∉ N ∧ ∀ j < x, j ∈ N
theorem Fresh.uniq {N : List Nat} {x y : Nat} (h : Fresh N x) (k : Fresh N y) : x = y := by
  rcases Nat.lt_trichotomy x y with h1 | h1 | h1
  · exact absurd (k.2 x h1) h.1
  · exact h1
  · exact absurd (h.2 y h1) k.1

abbrev nodes (l : List (Nat × α)) : List Nat := l.map Prod.fst
structure CInv (n : Nat) (l : List (Nat × α)) (used : List Bool) (nx pv : List Int) (vs : List α) : Prop where
  lx : nx.length = used.length
  lp : pv.length = used.length
  lv : vs.length = used.length
  le : used.length ≤ n
  nd : (nodes l).Nodup
  us : ∀ i : Nat, used[i]? = some true ↔ i ∈ nodes l
  nxt : Lk nx (-1) (nodes l)
  prv : Lk pv (-1) (nodes l).reverse
  val : ∀ p ∈ l, vs[p.1]? = some p.2

theorem CInv.new (n : Nat) : CInv n ([] : List (Nat × α)) [] [] [] [] := ⟨rfl, rfl, rfl, Nat.zero_le _, List.nodup_nil, by simp, trivial, trivial, by simp⟩
theorem CInv.lt {n : Nat} {l : List (Nat × α)} {used : List Bool} {nx pv : List Int} {vs : List α} (h : CInv n l used nx pv vs) : ∀ x ∈ nodes l, x < used.length := fun x hx => by
  have := (h.us x).2 hx
  exact (List.getElem?_eq_some_iff.1 this).1
theorem CInv.len {n : Nat} {l : List (Nat × α)} {used : List Bool} {nx pv : List Int} {vs : List α} (h : CInv n l used nx pv vs) : l.length ≤ used.length := by
  have := nodup_subset_len (nodes l) (List.range used.length) h.nd fun x hx => List.mem_range.2 (h.lt x hx)
  simpa using this
/-- If all places are used, there are as many nodes. -/
theorem CInv.full {n : Nat} {l : List (Nat × α)} {used : List Bool} {nx pv : List Int} {vs : List α} (h : CInv n l used nx pv vs) (ha : ∀ i, i < used.length → used[i]? = some true) : l.length = used.length := by
  refine Nat.le_antisymm h.len ?_
  have := nodup_subset_len (List.range used.length) (nodes l) List.nodup_range fun x hx => (h.us x).1 (ha x (List.mem_range.1 hx))
  simpa using this
/-- The least place that is not used, if there is one. -/
theorem CInv.fresh {n : Nat} {l : List (Nat × α)} {used : List Bool} {nx pv : List Int} {vs : List α} (h : CInv n l used nx pv vs) {x : Nat} (hx : used[x]? ≠ some true) (hb : ∀ j < x, used[j]? = some true) : Fresh (nodes l) x :=
  ⟨fun hm => hx ((h.us x).2 hm), fun j hj => (h.us j).1 (hb j hj)⟩
/-- One place more. -/
theorem CInv.more {n : Nat} {l : List (Nat × α)} {used : List Bool} {nx pv : List Int} {vs : List α} (h : CInv n l used nx pv vs) (hn : used.length < n) (a b : Int) (v : α) : CInv n l (used ++ [false]) (nx ++ [a]) (pv ++ [b]) (vs ++ [v]) := by
  refine ⟨by simp [h.lx], by simp [h.lp], by simp [h.lv], by simp; omega, h.nd, fun i => ?_, Lk_push h.nxt, Lk_push h.prv, fun p hp => ?_⟩
  · rw [← h.us i]
    rcases Nat.lt_trichotomy i used.length with hi | hi | hi
    · rw [List.getElem?_append_left hi]
    · subst hi; simp
    · rw [List.getElem?_eq_none (by simp; omega), List.getElem?_eq_none (by omega)]
  · have := h.val p hp
    rw [List.getElem?_append_left (List.getElem?_eq_some_iff.1 this).1]
    exact this
/-- A node between A and B. -/
theorem CInv.insert {n : Nat} {A B : List (Nat × α)} {used : List Bool} {nx pv : List Int} {vs : List α} (h : CInv n (A ++ B) used nx pv vs) {x : Nat} (hx : x ∉ nodes (A ++ B)) (hlt : x < used.length) (v : α) :
    CInv n (A ++ (x, v) :: B) (used.set x true) (setLast (nx.set x (hdE (-1) (nodes B))) (nodes A) x) (setLast (pv.set x (hdE (-1) (nodes A).reverse)) (nodes B).reverse x) (vs.set x v) := by
  have hnd := h.nd
  simp only [nodes, List.map_append] at hnd hx
  refine ⟨by rw [setLast_length]; simp [h.lx], by rw [setLast_length]; simp [h.lp], by simp [h.lv], by simp [h.le], ?_, fun i => ?_, ?_, ?_, fun p hp => ?_⟩
  · simp only [nodes, List.map_append, List.map_cons]
    rw [List.nodup_append] at hnd ⊢
    rw [List.mem_append, not_or] at hx
    refine ⟨hnd.1, List.nodup_cons.2 ⟨hx.2, hnd.2.1⟩, fun a ha b hb => ?_⟩
    rcases List.mem_cons.1 hb with rfl | hb
    · exact fun e => hx.1 (e ▸ ha)
    · exact hnd.2.2 a ha b hb
  · have := h.us i
    simp only [nodes, List.map_append, List.map_cons, List.mem_append, List.mem_cons] at this ⊢
    by_cases hi : x = i
    · subst hi; simp [hlt]
    · rw [List.getElem?_set_ne hi, this]
      have : i ≠ x := fun e => hi e.symm
      simp [this]
  · have h1 := h.nxt
    simp only [nodes, List.map_append, List.map_cons] at h1 ⊢
    exact Lk_insert h1 hnd hx (by rw [h.lx]; exact hlt)
  · have h1 := h.prv
    simp only [nodes, List.map_append, List.map_cons, List.reverse_append, List.reverse_cons, List.append_assoc, List.singleton_append] at h1 ⊢
    have := Lk_insert (x := x) h1 (by rw [← List.reverse_append]; exact ((List.reverse_perm _).symm.nodup hnd)) (by rw [← List.reverse_append, List.mem_reverse]; exact hx) (by rw [h.lp]; exact hlt)
    simpa using this
  · have : p ∈ A ++ B ∨ p = (x, v) := by
      simp only [List.mem_append, List.mem_cons] at hp ⊢
      rcases hp with h | h | h
      · exact .inl (.inl h)
      · exact .inr h
      · exact .inl (.inr h)
    rcases this with hp | rfl
    · have h2 := h.val p hp
      have : x ≠ p.1 := fun e => hx (by rw [e, ← List.map_append]; exact List.mem_map_of_mem hp)
      rw [List.getElem?_set_ne this]; exact h2
    · simp [h.lv, hlt]
/-- A node is taken out. -/
theorem CInv.remove {n : Nat} {A B : List (Nat × α)} {x : Nat} {v z : α} {used : List Bool} {nx pv : List Int} {vs : List α} (h : CInv n (A ++ (x, v) :: B) used nx pv vs) :
    CInv n (A ++ B) (used.set x false) (setLast nx (nodes A) (hdE (-1) (nodes B))) (setLast pv (nodes B).reverse (hdE (-1) (nodes A).reverse)) (vs.set x z) := by
  have hnd := h.nd
  simp only [nodes, List.map_append, List.map_cons] at hnd
  have hnd2 := hnd
  rw [List.nodup_append, List.nodup_cons] at hnd2
  have hxA : x ∉ A.map Prod.fst := fun hx => hnd2.2.2 x hx x (List.mem_cons_self ..) rfl
  have hxB := hnd2.2.1.1
  refine ⟨by rw [setLast_length]; simp [h.lx], by rw [setLast_length]; simp [h.lp], by simp [h.lv], by simp [h.le], ?_, fun i => ?_, ?_, ?_, fun p hp => ?_⟩
  · simp only [nodes, List.map_append]
    rw [List.nodup_append]
    exact ⟨hnd2.1, hnd2.2.1.2, fun a ha b hb => hnd2.2.2 a ha b (List.mem_cons_of_mem _ hb)⟩
  · have := h.us i
    simp only [nodes, List.map_append, List.map_cons, List.mem_append, List.mem_cons] at this ⊢
    by_cases hi : x = i
    · subst hi
      have h2 : ¬ (x ∈ A.map Prod.fst ∨ x ∈ B.map Prod.fst) := fun h => h.elim hxA hxB
      simp only [h2, iff_false]
      by_cases hlt : x < used.length
      · simp [hlt]
      · rw [List.getElem?_eq_none (by simp; omega)]; simp
    · rw [List.getElem?_set_ne hi, this]
      have : i ≠ x := fun e => hi e.symm
      simp [this]
  · have h1 := h.nxt
    simp only [nodes, List.map_append, List.map_cons] at h1 ⊢
    exact Lk_remove h1 hnd
  · have h1 := h.prv
    simp only [nodes, List.map_append, List.map_cons, List.reverse_append, List.reverse_cons, List.append_assoc, List.singleton_append] at h1 ⊢
    have hnr := (List.reverse_perm _).symm.nodup hnd
    simp only [List.reverse_append, List.reverse_cons, List.append_assoc, List.singleton_append] at hnr
    exact Lk_remove h1 hnr
  · have hp' : p ∈ A ++ (x, v) :: B := by
      simp only [List.mem_append, List.mem_cons] at hp ⊢
      exact hp.imp id .inr
    have h2 := h.val p hp'
    have : x ≠ p.1 := by
      rintro rfl
      rcases List.mem_append.1 hp with hp | hp
      · exact hxA (List.mem_map_of_mem hp)
      · exact hxB (List.mem_map_of_mem hp)
    rw [List.getElem?_set_ne this]; exact h2
/-- A node stands at one place. -/
theorem node_uniq : ∀ {A A' B B' : List (Nat × α)} {x : Nat} {v v' : α}, (nodes (A ++ (x, v) :: B)).Nodup → A ++ (x, v) :: B = A' ++ (x, v') :: B' → A' = A ∧ v' = v ∧ B' = B
  | [], [], B, B', x, v, v', _, h => by simp at h; exact ⟨rfl, h.1.symm, h.2.symm⟩
  | [], p :: A', B, B', x, v, v', hn, h => by
    simp only [List.nil_append, List.cons_append, List.cons.injEq] at h
    obtain ⟨rfl, rfl⟩ := h
    simp [nodes] at hn
  | p :: A, [], B, B', x, v, v', hn, h => by
    simp only [List.nil_append, List.cons_append, List.cons.injEq] at h
    obtain ⟨rfl, rfl⟩ := h
    simp [nodes] at hn
  | p :: A, q :: A', B, B', x, v, v', hn, h => by
    simp only [List.cons_append, List.cons.injEq] at h
    obtain ⟨rfl, h⟩ := h
    simp only [nodes, List.cons_append, List.map_cons, List.nodup_cons] at hn
    obtain ⟨rfl, h1, h2⟩ := node_uniq hn.2 h
    exact ⟨rfl, h1, h2⟩
/-- The place of a node. -/
theorem split_node {l : List (Nat × α)} {x : Nat} (h : x ∈ nodes l) : ∃ A v B, l = A ++ (x, v) :: B := by
  obtain ⟨p, hp, rfl⟩ := List.mem_map.1 h
  obtain ⟨A, B, rfl⟩ := List.append_of_mem hp
  exact ⟨A, p.2, B, rfl⟩
end
end Go.Proofs.YtmagdjlcckgkpaaGreat
