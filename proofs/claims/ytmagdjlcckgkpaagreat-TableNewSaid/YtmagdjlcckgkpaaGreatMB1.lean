/- Texts of this proof, part MB1: what the code does, step by step. They have no conditions. -/
import Derived.WalkKit
import Derived.WalkSpells
import Derived.WalkLawsBesides
import Derived.Laws.OwnMore
import Derived.Maps.AppendAt
import Derived.Lib.AppendStr
import Derived.OrdersHeld
import Derived.Deep.LoopGhost
import Derived.KernelRfl
import Derived.IntWalk
/- A small proof kit: frames as association lists, the heap as a list of resources, one rule a form of code. -/
namespace Go.Proofs.YtmagdjlcckgkpaaGreat
open Go.RowKit

/-! ### Frames -/

abbrev Env := List (Nat × Value)

def lk : Env → Nat → Option Value
  | [], _ => .none
  | (k, v) :: r, t => bif Nat.beq k t then some v else lk r t

def ev (m : Env) : Operand → Option Value
  | .tmp t => lk m t
  | .const v => some v
  | .global g => some (.pointer (some ⟨g, 0, .none⟩))
  | .func f => some (.func (.func f) #[] #[])

def evs (m : Env) : List Operand → Option (List Value)
  | [] => some []
  | x :: r => match ev m x, evs m r with
    | some v, some vs => some (v :: vs)
    | _, _ => .none

/-- The parts of a literal. -/
def evps (m : Env) : List (Nat × Operand) → Option (List (Nat × Value))
  | [] => some []
  | (i, x) :: r => match ev m x, evps m r with
    | some v, some vs => some ((i, v) :: vs)
    | _, _ => .none

structure Fr (n : Nat) (m : Env) (a : Act) : Prop where
  size : a.tmps.size = n
  defers : a.defers = []
  get : ∀ t v, lk m t = some v → a.tmps[t]? = some v

theorem Fr.eval {n : Nat} {m : Env} {a : Act} (h : Fr n m a) {x : Operand} {v : Value} (he : ev m x = some v) : a.eval x = v := by
  cases x with
  | tmp t => have := h.get t v he; simp [Act.eval, this]
  | const u => simpa [ev, Act.eval] using he
  | global g => simpa [ev, Act.eval] using he
  | func f => simpa [ev, Act.eval] using he

theorem Fr.evals {n : Nat} {m : Env} {a : Act} (h : Fr n m a) : ∀ (xs : List Operand) {vs : List Value}, evs m xs = some vs → xs.map a.eval = vs
  | [], vs, he => by simpa [evs] using he
  | x :: r, vs, he => by
    simp only [evs] at he
    split at he
    · rename_i v us h1 h2
      simp only [Option.some.injEq] at he
      subst he
      simp [h.eval h1, h.evals r h2]
    · cases he

theorem Fr.evparts {n : Nat} {m : Env} {a : Act} (h : Fr n m a) : ∀ (xs : List (Nat × Operand)) {vs : List (Nat × Value)}, evps m xs = some vs → xs.map (fun (i, x) => (i, a.eval x)) = vs
  | [], vs, he => by simpa [evps] using he
  | (i, x) :: r, vs, he => by
    simp only [evps] at he
    split at he
    · rename_i v us h1 h2
      simp only [Option.some.injEq] at he
      subst he
      simp [h.eval h1, h.evparts r h2]
    · cases he

theorem Fr.put {n : Nat} {m : Env} {a : Act} (h : Fr n m a) {d : Nat} (hd : Nat.blt d n = true) (v : Value) : Fr n ((d, v) :: m) (a.put (some d) v) := by
  have hd' : d < n := by simpa [Nat.blt_eq] using hd
  refine ⟨by simpa [Act.put] using h.size, h.defers, fun t u hu => ?_⟩
  simp only [lk] at hu
  by_cases hk : d = t
  · subst hk
    simp only [Nat.beq_refl, cond_true, Option.some.injEq] at hu
    subst hu
    simp [Act.put, h.size, hd']
  · have : Nat.beq d t = false := by
      cases hb : Nat.beq d t with
      | false => rfl
      | true => exact absurd (Nat.eq_of_beq_eq_true hb) hk
    simp only [this, cond_false] at hu
    simp only [Act.put]
    rw [Array.getElem?_setIfInBounds_ne hk]
    exact h.get t u hu

theorem Fr.put_none {n : Nat} {m : Env} {a : Act} (h : Fr n m a) (v : Value) : Fr n m (a.put .none v) := h

/-- Every entry of the first is an entry of the second. -/
def Sub : Env → Env → Prop
  | [], _ => True
  | (k, v) :: r, m => lk m k = some v ∧ Sub r m

theorem Sub.lk : ∀ {m' m : Env}, Sub m' m → ∀ t v, lk m' t = some v → lk m t = some v
  | [], _, _, t, v, h => by simp [Proofs.YtmagdjlcckgkpaaGreat.lk] at h
  | (k, u) :: r, m, hs, t, v, h => by
    simp only [Proofs.YtmagdjlcckgkpaaGreat.lk] at h
    by_cases hk : k = t
    · subst hk
      simp only [Nat.beq_refl, cond_true, Option.some.injEq] at h
      subst h
      exact hs.1
    · have : Nat.beq k t = false := by
        cases hb : Nat.beq k t with
        | false => rfl
        | true => exact absurd (Nat.eq_of_beq_eq_true hb) hk
      simp only [this, cond_false] at h
      exact Sub.lk hs.2 t v h

/-- The entries are arguments. -/
def SubL : Env → List Value → Prop
  | [], _ => True
  | (k, v) :: r, l => l[k]? = some v ∧ SubL r l

theorem SubL.get : ∀ {m : Env} {l : List Value}, SubL m l → ∀ t v, lk m t = some v → l[t]? = some v
  | [], _, _, t, v, h => by simp [lk] at h
  | (k, u) :: r, l, hs, t, v, h => by
    simp only [lk] at h
    by_cases hk : k = t
    · subst hk
      simp only [Nat.beq_refl, cond_true, Option.some.injEq] at h
      subst h
      exact hs.1
    · have : Nat.beq k t = false := by
        cases hb : Nat.beq k t with
        | false => rfl
        | true => exact absurd (Nat.eq_of_beq_eq_true hb) hk
      simp only [this, cond_false] at h
      exact SubL.get hs.2 t v h

theorem Fr.sub {n : Nat} {m m' : Env} {a : Act} (h : Fr n m a) (hs : Sub m' m) : Fr n m' a :=
  ⟨h.size, h.defers, fun t v hv => h.get t v (hs.lk t v hv)⟩

/-! ### The world: what may have changed, and what is held -/

structure Frm (F : Nat → Prop) (w w' : World) : Prop where
  os : w'.os = w.os
  tape : w'.tape = w.tape
  output : w'.output = w.output
  size : w.heap.size ≤ w'.heap.size
  block : ∀ k, k < w.heap.size → ¬ F k → w'.heap[k]? = w.heap[k]?

/-- Nothing that was there may have changed. -/
def Nil : Nat → Prop := fun _ => False

theorem Frm.refl (F : Nat → Prop) (w : World) : Frm F w w := ⟨rfl, rfl, rfl, Nat.le_refl _, fun _ _ _ => rfl⟩
theorem Frm.trans {F G : Nat → Prop} {a b c : World} (h : Frm F a b) (k : Frm G b c) (hG : ∀ x, G x → x < a.heap.size → F x) : Frm F a c :=
  ⟨k.os.trans h.os, k.tape.trans h.tape, k.output.trans h.output, Nat.le_trans h.size k.size,
    fun i hi hn => (k.block i (Nat.lt_of_lt_of_le hi h.size) (fun hg => hn (hG i hg hi))).trans (h.block i hi hn)⟩
theorem Frm.mono {F G : Nat → Prop} {a b : World} (h : Frm F a b) (hG : ∀ x, F x → G x) : Frm G a b :=
  ⟨h.os, h.tape, h.output, h.size, fun i hi hn => h.block i hi fun hf => hn (hG i hf)⟩
theorem Frm.drew (F : Nat → Prop) (w : World) : Frm F w { w with drawn := w.drawn + 1 } := ⟨rfl, rfl, rfl, Nat.le_refl _, fun _ _ _ => rfl⟩
theorem Frm.alloc (F : Nat → Prop) (w : World) (o : Obj) : Frm F w (w.alloc o) :=
  ⟨rfl, rfl, rfl, by simp, fun k hk _ => heap_alloc_old w o hk⟩
theorem Frm.below {w w' : World} (h : Frm Nil w w') : Below w.heap.size w w' :=
  ⟨h.os, h.tape, h.output, h.size, fun k hk => h.block k hk id⟩

/-- A resource: blocks of its own, and what is said of them. -/
structure Res where
  foot : Nat → Prop
  ok : World → Prop
  loc : ∀ w w' : World, (∀ k, foot k → w'.heap[k]? = w.heap[k]?) → ok w → ok w'

/-- A block of which all cells are known. -/
def blk (b : Nat) (cs : List Value) (t : TypeId) : Res where
  foot := fun k => k = b
  ok := fun w => w.heap[b]? = some (.cells cs.toArray t (0, 0))
  loc := fun _ _ h hw => (h b rfl).trans hw

/-- A slice of the call's own: n elements of sz cells each, in a block of its own, or nil. -/
def row (v : Value) (e sz n : Nat) (xs : List Value) : Res where
  foot := fun k => v.ownBlock = some k
  ok := fun w => w.ownsRow 0 e sz v n xs
  loc := fun w w' h hw => by
    refine ⟨hw.1, ?_⟩
    rcases hw.2 with hn | ⟨g, cap, cur, rfl, hb, hg, rest⟩
    · exact .inl hn
    · exact .inr ⟨g, cap, cur, rfl, hb, (h g (by simp [Value.ownBlock])).trans hg, rest⟩

/-- The resources of a list are there, apart from each other; each block is new since w0 or among F0. -/
def Hs (w0 : World) (F0 : Nat → Prop) : List Res → World → Prop
  | [], _ => True
  | r :: H, w => (r.ok w ∧ (∀ k, r.foot k → k < w.heap.size ∧ (w0.heap.size ≤ k ∨ F0 k)) ∧ ∀ s ∈ H, ∀ k, r.foot k → ¬ s.foot k) ∧ Hs w0 F0 H w

def Holds (w0 : World) (F0 : Nat → Prop) (H : List Res) (w : World) : Prop := Frm F0 w0 w ∧ Hs w0 F0 H w

def feet (H : List Res) : Nat → Prop := fun k => ∃ r ∈ H, r.foot k

theorem Hs.mem {w0 w : World} {F0 : Nat → Prop} : ∀ {H : List Res}, Hs w0 F0 H w → ∀ r ∈ H, r.ok w ∧ ∀ k, r.foot k → k < w.heap.size ∧ (w0.heap.size ≤ k ∨ F0 k)
  | [], _, r, hr => by cases hr
  | s :: H, h, r, hr => by
    rcases List.mem_cons.1 hr with rfl | hr
    · exact ⟨h.1.1, h.1.2.1⟩
    · exact Hs.mem h.2 r hr

/-- The list is kept over whatever leaves its blocks alone. -/
theorem Hs.keep {w0 w w' : World} {F0 : Nat → Prop} : ∀ {H : List Res}, Hs w0 F0 H w → (∀ r ∈ H, ∀ k, r.foot k → w'.heap[k]? = w.heap[k]?) → w.heap.size ≤ w'.heap.size → Hs w0 F0 H w'
  | [], _, _, _ => trivial
  | s :: _, h, hk, hz => ⟨⟨s.loc w w' (hk s (List.mem_cons_self ..)) h.1.1, fun k hf => ⟨Nat.lt_of_lt_of_le (h.1.2.1 k hf).1 hz, (h.1.2.1 k hf).2⟩, h.1.2.2⟩,
      Hs.keep h.2 (fun r hr => hk r (List.mem_cons_of_mem _ hr)) hz⟩

theorem Hs.append {w0 w : World} {F0 : Nat → Prop} : ∀ {H H' : List Res}, Hs w0 F0 (H ++ H') w ↔ Hs w0 F0 H w ∧ Hs w0 F0 H' w ∧ ∀ r ∈ H, ∀ s ∈ H', ∀ k, r.foot k → ¬ s.foot k
  | [], H' => by simp [Hs]
  | r :: H, H' => by
    simp only [List.cons_append, Hs, Hs.append (H := H) (H' := H')]
    constructor
    · rintro ⟨⟨h1, h2, h3⟩, h4, h5, h6⟩
      refine ⟨⟨⟨h1, h2, fun s hs => h3 s (List.mem_append_left _ hs)⟩, h4⟩, h5, ?_⟩
      intro x hx s hs
      rcases List.mem_cons.1 hx with rfl | hx
      · exact h3 s (List.mem_append_right _ hs)
      · exact h6 x hx s hs
    · rintro ⟨⟨⟨h1, h2, h3⟩, h4⟩, h5, h6⟩
      refine ⟨⟨h1, h2, fun s hs => ?_⟩, h4, h5, fun x hx => h6 x (List.mem_cons_of_mem _ hx)⟩
      rcases List.mem_append.1 hs with hs | hs
      · exact h3 s hs
      · exact h6 r (List.mem_cons_self ..) s hs

/-- The order does not matter. -/
theorem Hs.perm {w0 w : World} {F0 : Nat → Prop} {H H' : List Res} (p : H.Perm H') : Hs w0 F0 H w → Hs w0 F0 H' w := by
  induction p with
  | nil => exact id
  | cons x p ih => exact fun h => ⟨⟨h.1.1, h.1.2.1, fun s hs => h.1.2.2 s (p.mem_iff.2 hs)⟩, ih h.2⟩
  | swap x y l =>
    rintro ⟨⟨h1, h2, h3⟩, ⟨h4, h5, h6⟩, h7⟩
    refine ⟨⟨h4, h5, fun s hs => ?_⟩, ⟨h1, h2, fun s hs => h3 s (List.mem_cons_of_mem _ hs)⟩, h7⟩
    rcases List.mem_cons.1 hs with rfl | hs
    · exact fun k hx hy => h3 x (List.mem_cons_self ..) k hy hx
    · exact h6 s hs
  | trans _ _ ih1 ih2 => exact fun h => ih2 (ih1 h)

theorem Holds.perm {w0 w : World} {F0 : Nat → Prop} {H H' : List Res} (h : Holds w0 F0 H w) (p : H.Perm H') : Holds w0 F0 H' w := ⟨h.1, h.2.perm p⟩

theorem Hs.drop_ {w0 w : World} {F0 : Nat → Prop} {H H' : List Res} (h : Hs w0 F0 H w) (hs : H'.Sublist H) : Hs w0 F0 H' w := by
  induction hs with
  | slnil => trivial
  | cons a _ ih => exact ih h.2
  | cons_cons a hsub ih => exact ⟨⟨h.1.1, h.1.2.1, fun s hs => h.1.2.2 s (hsub.subset hs)⟩, ih h.2⟩

theorem Holds.drop_ {w0 w : World} {F0 : Nat → Prop} {H H' : List Res} (h : Holds w0 F0 H w) (hs : H'.Sublist H) : Holds w0 F0 H' w := ⟨h.1, h.2.drop_ hs⟩

/-- Take out by place (each place counts in what is left). -/
def takeAt : Nat → List Res → Option (Res × List Res)
  | _, [] => .none
  | 0, r :: l => some (r, l)
  | i + 1, r :: l => match takeAt i l with
    | some (s, l') => some (s, r :: l')
    | .none => .none
def pick : List Nat → List Res → Option (List Res × List Res)
  | [], H => some ([], H)
  | i :: is, H => match takeAt i H with
    | some (r, H') => match pick is H' with
      | some (L, E) => some (r :: L, E)
      | .none => .none
    | .none => .none
theorem takeAt_perm : ∀ (i : Nat) (H : List Res) {r : Res} {H' : List Res}, takeAt i H = some (r, H') → H.Perm (r :: H')
  | _, [], _, _, h => by simp [takeAt] at h
  | 0, r :: l, _, _, h => by simp only [takeAt, Option.some.injEq, Prod.mk.injEq] at h; obtain ⟨rfl, rfl⟩ := h; exact List.Perm.refl _
  | i + 1, s :: l, r, H', h => by
    simp only [takeAt] at h
    split at h
    · rename_i r' l' hq
      simp only [Option.some.injEq, Prod.mk.injEq] at h
      obtain ⟨rfl, rfl⟩ := h
      exact ((takeAt_perm i l hq).cons s).trans (List.Perm.swap ..)
    · cases h
theorem pick_perm : ∀ (is : List Nat) (H : List Res) {L E : List Res}, pick is H = some (L, E) → H.Perm (L ++ E)
  | [], H, _, _, h => by simp only [pick, Option.some.injEq, Prod.mk.injEq] at h; obtain ⟨rfl, rfl⟩ := h; exact List.Perm.refl _
  | i :: is, H, L, E, h => by
    simp only [pick] at h
    split at h
    · rename_i r H' hq
      split at h
      · rename_i L' E' hq'
        simp only [Option.some.injEq, Prod.mk.injEq] at h
        obtain ⟨rfl, rfl⟩ := h
        exact (takeAt_perm i H hq).trans ((pick_perm is H' hq').cons r)
      · cases h
    · cases h
theorem Holds.pick {w0 w : World} {F0 : Nat → Prop} {H L E : List Res} (h : Holds w0 F0 H w) (hp : H.Perm (L ++ E)) : Holds w0 F0 L w := (h.perm hp).drop_ (List.sublist_append_left _ _)

theorem Holds.ok {w0 w : World} {F0 : Nat → Prop} {H : List Res} (h : Holds w0 F0 H w) {i : Nat} {r : Res} (hi : H[i]? = some r) : r.ok w :=
  (h.2.mem r (List.mem_of_getElem? hi)).1

/-- A new block. -/
theorem Holds.alloc {w0 w : World} {F0 : Nat → Prop} {H : List Res} (h : Holds w0 F0 H w) (cs : List Value) (t : TypeId) :
    Holds w0 F0 (blk w.heap.size cs t :: H) (w.alloc (.cells cs.toArray t)) := by
  refine ⟨h.1.trans (Frm.alloc (fun _ => False) w _) (fun _ hx => hx.elim), ⟨heap_alloc_new w _, ?_, ?_⟩, ?_⟩
  · rintro k rfl
    exact ⟨by simp, .inl h.1.size⟩
  · intro s hs k hk
    have := ((h.2.mem s hs).2 k)
    intro hf
    have h1 := (this hf).1
    simp only [blk] at hk
    omega
  · refine h.2.keep (fun r hr k hk => heap_alloc_old w _ ((h.2.mem r hr).2 k hk).1) (by simp)

/-- One resource changes into another over the same blocks; whatever else was there is left alone. -/
theorem Holds.change {w0 w w' : World} {F0 : Nat → Prop} {H1 H2 : List Res} {r r' : Res} (h : Holds w0 F0 (H1 ++ r :: H2) w)
    (hf : Frm r.foot w w') (hr : r'.ok w') (hfoot : ∀ k, r'.foot k → r.foot k ∨ (w.heap.size ≤ k ∧ k < w'.heap.size)) : Holds w0 F0 (H1 ++ r' :: H2) w' := by
  obtain ⟨h1, h2⟩ := h
  have hp := h2.perm (List.perm_middle (a := r) (l₁ := H1) (l₂ := H2))
  refine ⟨h1.trans hf (fun x hx hlt => ?_), Hs.perm (List.perm_middle (a := r') (l₁ := H1) (l₂ := H2)).symm ⟨⟨hr, ?_, ?_⟩, ?_⟩⟩
  · rcases (hp.1.2.1 x hx).2 with h | h
    · omega
    · exact h
  · intro k hk
    rcases hfoot k hk with h | h
    · exact ⟨Nat.lt_of_lt_of_le (hp.1.2.1 k h).1 hf.size, (hp.1.2.1 k h).2⟩
    · exact ⟨h.2, .inl (Nat.le_trans h1.size h.1)⟩
  · intro s hs k hk
    rcases hfoot k hk with h | h
    · exact hp.1.2.2 s hs k h
    · intro hsf
      have := ((hp.2.mem s hs).2 k hsf).1
      omega
  · refine hp.2.keep (fun s hs k hk => hf.block k ((hp.2.mem s hs).2 k hk).1 ?_) hf.size
    exact fun hx => hp.1.2.2 s hs k hx hk

/-- What a call of another function leaves: the consumed resources are replaced. -/
theorem Holds.call {w0 w w' : World} {F0 : Nat → Prop} {Hc Hf H1 : List Res} (h : Holds w0 F0 (Hc ++ Hf) w) (h' : Holds w (feet Hc) H1 w') : Holds w0 F0 (H1 ++ Hf) w' := by
  obtain ⟨h1, h2⟩ := h
  obtain ⟨hc, hf, hd⟩ := Hs.append.1 h2
  refine ⟨h1.trans h'.1 ?_, Hs.append.2 ⟨?_, ?_, ?_⟩⟩
  · rintro x ⟨r, hr, hx⟩ hlt
    rcases ((hc.mem r hr).2 x hx).2 with h | h
    · omega
    · exact h
  · have key : ∀ {L : List Res}, Hs w (feet Hc) L w' → Hs w0 F0 L w' := by
      intro L
      induction L with
      | nil => exact fun _ => trivial
      | cons r L ih =>
        rintro ⟨⟨a, b, c⟩, d⟩
        refine ⟨⟨a, fun k hk => ⟨(b k hk).1, ?_⟩, c⟩, ih d⟩
        rcases (b k hk).2 with h | ⟨s, hs, hks⟩
        · exact .inl (Nat.le_trans h1.size h)
        · exact ((hc.mem s hs).2 k hks).2
    exact key h'.2
  · refine hf.keep (fun s hs k hk => h'.1.block k ((hf.mem s hs).2 k hk).1 ?_) h'.1.size
    rintro ⟨r, hr, hx⟩
    exact hd r hr s hs k hx hk
  · intro r hr s hs k hk hsk
    rcases ((h'.2.mem r hr).2 k hk).2 with h | ⟨t, ht, hkt⟩
    · have := ((hf.mem s hs).2 k hsk).1
      omega
    · exact hd t ht s hs k hkt hsk

theorem Holds.start (w : World) (F : Nat → Prop) : Holds w F [] w := ⟨Frm.refl _ _, trivial⟩

/-- Old memory reads as it did. -/
theorem Holds.old {w0 w : World} {F0 : Nat → Prop} {H : List Res} (h : Holds w0 F0 H w) {a : Addr} {v : Value} (hc : w0.cell? a = some v) (hF : ¬ F0 a.block) : w.cell? a = some v := by
  have hlt := World.block_lt_of_cell? w0 a hc
  rw [World.cell?_of_block (h.1.block a.block hlt hF)]
  exact hc

/-! ### Specifications of functions -/

/-- The call returns; of what was there only F may have changed; it leaves the resources H1. -/
def Spec (P : Program) (f : FuncId) (args : List Value) (w : World) (F : Nat → Prop) (Φ : Value → List Res → Prop) : Prop :=
  Calls P f args.toArray w fun e w' => ∃ v H1, e = .returned v ∧ Holds w F H1 w' ∧ Φ v H1

theorem Spec.mono {P : Program} {f : FuncId} {args : List Value} {w : World} {F : Nat → Prop} {Φ Ψ : Value → List Res → Prop} (h : Spec P f args w F Φ)
    (hi : ∀ v H1, Φ v H1 → Ψ v H1) : Spec P f args w F Ψ :=
  Calls.mono h fun _ _ ⟨v, H1, he, hh, hp⟩ => ⟨v, H1, he, hh, hi v H1 hp⟩

/-! ### The rules of code -/

section
variable (P : Program) (n : Nat) (w0 : World) (F0 : Nat → Prop)

abbrev Cond := Env → List Res → World → Prop

def Post (N R : Cond) (X : Nat → Cond) : Exit → Act → World → Prop
  | .normal, a, w => ∃ m H, Fr n m a ∧ Holds w0 F0 H w ∧ N m H w
  | .ret, a, w => ∃ m H, Fr n m a ∧ Holds w0 F0 H w ∧ R m H w
  | .exit id, a, w => ∃ m H, Fr n m a ∧ Holds w0 F0 H w ∧ X id m H w
  | _, _, _ => False

def W (c : Code) (N R : Cond) (X : Nat → Cond) (m : Env) (H : List Res) (w : World) : Prop :=
  ∀ a, Fr n m a → Holds w0 F0 H w → c.wp P (Post n w0 F0 N R X) a w

def WL (ops : Array Oper) (N : Cond) (l : List Oper) (m : Env) (H : List Res) (w : World) : Prop :=
  ∀ a, Fr n m a → Holds w0 F0 H w → ∀ Q : Exit → Act → World → Prop,
    (∀ a' w', (∃ m' H', Fr n m' a' ∧ Holds w0 F0 H' w' ∧ N m' H' w') → Q .normal a' w') → wpList P ops Q l a w
end

section
variable {P : Program} {n : Nat} {w0 : World} {F0 : Nat → Prop} {N R : Cond} {X : Nat → Cond} {m : Env} {H : List Res} {w : World}

theorem W.mono {N' R' : Cond} {X' : Nat → Cond} {c : Code} (h : W P n w0 F0 c N R X m H w) (hN : ∀ m H w, N m H w → N' m H w)
    (hR : ∀ m H w, R m H w → R' m H w) (hX : ∀ i m H w, X i m H w → X' i m H w) : W P n w0 F0 c N' R' X' m H w :=
  fun a ha hh => wp_mono (h a ha hh) fun e a' w' hq => by
    cases e with
    | normal => obtain ⟨m, H, h1, h2, h3⟩ := hq; exact ⟨m, H, h1, h2, hN _ _ _ h3⟩
    | ret => obtain ⟨m, H, h1, h2, h3⟩ := hq; exact ⟨m, H, h1, h2, hR _ _ _ h3⟩
    | exit id => obtain ⟨m, H, h1, h2, h3⟩ := hq; exact ⟨m, H, h1, h2, hX _ _ _ _ h3⟩
    | goto l => exact hq
    | panic c => exact hq
    | outgrown => exact hq

theorem w_seq {x y : Code} (h : W P n w0 F0 x (fun m H w => W P n w0 F0 y N R X m H w) R X m H w) : W P n w0 F0 (.seq x y) N R X m H w :=
  fun a ha hh => wp_seq (wp_mono (h a ha hh) fun e a' w' hq => by
    cases e with
    | normal => obtain ⟨m, H, h1, h2, h3⟩ := hq; exact h3 a' h1 h2
    | ret => exact hq
    | exit id => exact hq
    | goto l => exact hq
    | panic c => exact hq
    | outgrown => exact hq)

/-- The way of leaving a block. -/
def blkX (id : Nat) (N : Cond) (X : Nat → Cond) : Nat → Cond := fun i m H w => bif Nat.beq i id then N m H w else X i m H w

theorem w_block {id : Nat} {c : Code} (h : W P n w0 F0 c N R (blkX id N X) m H w) : W P n w0 F0 (.block id c) N R X m H w :=
  fun a ha hh => wp_block (wp_mono (h a ha hh) fun e a' w' hq => by
    cases e with
    | normal => exact hq
    | ret => exact hq
    | exit i =>
      obtain ⟨m, H, h1, h2, h3⟩ := hq
      simp only [blkX] at h3
      simp only [Exit.inBlock]
      by_cases hi : i = id
      · subst hi
        simp only [Nat.beq_refl, cond_true] at h3
        rw [if_pos rfl]
        exact ⟨m, H, h1, h2, h3⟩
      · have : Nat.beq i id = false := by
          cases hb : Nat.beq i id with
          | false => rfl
          | true => exact absurd (Nat.eq_of_beq_eq_true hb) hi
        simp only [this, cond_false] at h3
        rw [if_neg hi]
        exact ⟨m, H, h1, h2, h3⟩
    | goto l => exact hq
    | panic c => exact hq
    | outgrown => exact hq)

theorem w_skip (h : N m H w) : W P n w0 F0 .skip N R X m H w := fun _ ha hh => wp_skip ⟨m, H, ha, hh, h⟩
theorem w_ret (h : R m H w) : W P n w0 F0 .ret N R X m H w := fun _ ha hh => wp_ret ⟨m, H, ha, hh, h⟩
theorem w_exit {id : Nat} (h : X id m H w) : W P n w0 F0 (.exit id) N R X m H w := fun _ ha hh => wp_exit ⟨m, H, ha, hh, h⟩
/-- Leaving the innermost block, the next one, the one after. -/
theorem w_exit0 {id : Nat} (h : N m H w) {N' : Cond} : W P n w0 F0 (.exit id) N' R (blkX id N X) m H w := w_exit (by simp only [blkX, Nat.beq_refl, cond_true]; exact h)
theorem w_exit1 {id i1 : Nat} {N1 N' : Cond} (h : N m H w) (h1 : Nat.beq id i1 = false) : W P n w0 F0 (.exit id) N' R (blkX i1 N1 (blkX id N X)) m H w :=
  w_exit (by simp only [blkX, Nat.beq_refl, cond_true, h1, cond_false]; exact h)
theorem w_exit2 {id i1 i2 : Nat} {N1 N2 N' : Cond} (h : N m H w) (h1 : Nat.beq id i1 = false) (h2 : Nat.beq id i2 = false) :
    W P n w0 F0 (.exit id) N' R (blkX i1 N1 (blkX i2 N2 (blkX id N X))) m H w :=
  w_exit (by simp only [blkX, Nat.beq_refl, cond_true, h1, h2, cond_false]; exact h)

theorem w_if {c : Operand} {x y : Code} {b : Bool} (hc : ev m c = some (.bool b)) (ht : b = true → W P n w0 F0 x N R X m H w)
    (hf : b = false → W P n w0 F0 y N R X m H w) : W P n w0 F0 (.cond c x y) N R X m H w := fun a ha hh => by
  cases b with
  | true => exact wp_cond (ha.eval hc) (ht rfl a ha hh)
  | false => exact wp_cond (ha.eval hc) (hf rfl a ha hh)
theorem w_ifd {c : Operand} {x y : Code} {p : Prop} [Decidable p] (hc : ev m c = some (.bool (decide p))) (ht : p → W P n w0 F0 x N R X m H w)
    (hf : ¬ p → W P n w0 F0 y N R X m H w) : W P n w0 F0 (.cond c x y) N R X m H w :=
  w_if hc (fun h => ht (of_decide_eq_true h)) (fun h => hf (of_decide_eq_false h))
/-- A test of the form 'p or q', 'p and q'. -/
theorem w_ifb {c : Operand} {x y : Code} {b : Bool} (hc : ev m c = some (.bool b)) (ht : b = true → W P n w0 F0 x N R X m H w)
    (hf : ¬ b = true → W P n w0 F0 y N R X m H w) : W P n w0 F0 (.cond c x y) N R X m H w :=
  w_if hc ht fun h => hf (by simp [h])
theorem w_ift {c : Operand} {x y : Code} (hc : ev m c = some (.bool true)) (ht : W P n w0 F0 x N R X m H w) : W P n w0 F0 (.cond c x y) N R X m H w :=
  w_if hc (fun _ => ht) (fun h => by cases h)
theorem w_iff {c : Operand} {x y : Code} (hc : ev m c = some (.bool false)) (hf : W P n w0 F0 y N R X m H w) : W P n w0 F0 (.cond c x y) N R X m H w :=
  w_if hc (fun h => by cases h) (fun _ => hf)

/-- A loop: the invariant bears a number, which each round lowers. -/
theorem w_loop {c : Code} (I : Nat → Cond) (k0 : Nat) (h0 : I k0 m H w)
    (hr : ∀ k m H w, I k m H w → W P n w0 F0 c (fun m' H' w' => ∃ k', k' < k ∧ I k' m' H' w') R X m H w) : W P n w0 F0 (.loop c) N R X m H w := fun a ha hh => by
  refine wp_loop_ghost (fun k a w => ∃ m H, Fr n m a ∧ Holds w0 F0 H w ∧ I k m H w) k0 ⟨m, H, ha, hh, h0⟩ ?_
  rintro k a w ⟨m, H, ha, hh, hI⟩
  refine wp_mono (hr k m H w hI a ha hh) fun e a' w' hq => ?_
  cases e with
  | normal => obtain ⟨m', H', h1, h2, k', h3, h4⟩ := hq; exact ⟨k', h3, m', H', h1, h2, h4⟩
  | ret => exact hq
  | exit id => exact hq
  | goto l => exact hq
  | panic c => exact hq
  | outgrown => exact hq

/-- Weaken the frame, change the order of the resources, drop some. -/
theorem w_sub {c : Code} (m' : Env) (hs : Sub m' m) (h : W P n w0 F0 c N R X m' H w) : W P n w0 F0 c N R X m H w := fun a ha hh => h a (ha.sub hs) hh
theorem w_perm {c : Code} (H' : List Res) (hp : H.Perm H') (h : W P n w0 F0 c N R X m H' w) : W P n w0 F0 c N R X m H w := fun a ha hh => h a ha (hh.perm hp)
theorem w_drop {c : Code} (H' : List Res) (hp : H'.Sublist H) (h : W P n w0 F0 c N R X m H' w) : W P n w0 F0 c N R X m H w := fun a ha hh => h a ha (hh.drop_ hp)
theorem w_pick {c : Code} (is : List Nat) {L E : List Res} (hp : pick is H = some (L, E)) (h : W P n w0 F0 c N R X m L w) : W P n w0 F0 c N R X m H w := fun a ha hh => h a ha (hh.pick (pick_perm _ _ hp))
theorem w_with {c : Code} (h : Holds w0 F0 H w → W P n w0 F0 c N R X m H w) : W P n w0 F0 c N R X m H w := fun a ha hh => h hh a ha hh
/-- Ways meet again: what holds behind the first piece. -/
theorem w_cut {x y : Code} (M : Cond) (h1 : W P n w0 F0 x M R X m H w) (h2 : ∀ m H w, M m H w → W P n w0 F0 y N R X m H w) : W P n w0 F0 (.seq x y) N R X m H w :=
  w_seq (h1.mono h2 (fun _ _ _ h => h) (fun _ _ _ _ h => h))

theorem w_post {c : Code} (M : Cond) (h1 : W P n w0 F0 c M R X m H w) (h2 : ∀ m H w, M m H w → N m H w) : W P n w0 F0 c N R X m H w :=
  h1.mono h2 (fun _ _ _ h => h) (fun _ _ _ _ h => h)

theorem w_reg {id : Nat} {l : List Oper} (h : WL P n w0 F0 l.toArray N l m H w) : W P n w0 F0 (.region id l.toArray false) N R X m H w :=
  fun a ha hh => wp_region_lit (h a ha hh _ fun _ _ hq => hq)

/-! ### The beginning and the end of a function -/

def resOf (m : Env) : List ResultVar → Option (List Value)
  | [] => some []
  | .tmp t :: r => match lk m t, resOf m r with
    | some v, some vs => some (v :: vs)
    | _, _ => .none
  | .cell _ _ :: _ => .none

/-- The results as one value. -/
def tup : List Value → Value
  | [v] => v
  | vs => .tuple vs.toArray

theorem enter {f : FuncId} {fn : Func} {c : Code} {args : List Value} {F : Nat → Prop} {Φ : Value → List Res → Prop} {H : List Res}
    (hf : P.funcs[f]? = some fn) (hb : fn.body = some c) (hn : fn.ntmps = n) (m : Env) (hl : Nat.ble args.length n = true) (hm : SubL m args)
    (hh : Holds w F H w)
    (h : W P n w F c (fun m H w' => ∃ v H1, (∀ a, Fr n m a → Holds w F H w' → (results fn a.tmps).run P w' = .ok v w') ∧ H1.Sublist H ∧ Φ v H1)
      (fun m H w' => ∃ v H1, (∀ a, Fr n m a → Holds w F H w' → (results fn a.tmps).run P w' = .ok v w') ∧ H1.Sublist H ∧ Φ v H1) (fun _ _ _ _ => False) m H w) :
    Spec P f args w F Φ := by
  have hl := Nat.le_of_ble_eq_true hl
  refine calls_of_wp hf hb (wp_mono (h _ ⟨?_, rfl, ?_⟩ hh) ?_)
  · simp only [List.size_toArray, Array.size_append, Array.size_replicate, hn]; omega
  · intro t v hv
    have := hm.get t v hv
    have hlt : t < args.length := (List.getElem?_eq_some_iff.1 this).1
    rw [Array.getElem?_append_left (by simpa using hlt)]
    simpa using this
  · intro e a' w' hq
    cases e with
    | normal =>
      obtain ⟨m, H, h1, h2, v, H1, hr, hs, hp⟩ := hq
      exact ⟨h1.defers, v, hr a' h1 h2, v, H1, rfl, h2.drop_ hs, hp⟩
    | ret =>
      obtain ⟨m, H, h1, h2, v, H1, hr, hs, hp⟩ := hq
      exact ⟨h1.defers, v, hr a' h1 h2, v, H1, rfl, h2.drop_ hs, hp⟩
    | exit id => obtain ⟨_, _, _, _, h⟩ := hq; exact h
    | goto l => exact hq
    | panic c => exact (hq : False).elim
    | outgrown => exact (hq : False).elim

theorem results_tmps {fn : Func} {l : List ResultVar} {vs : List Value} (hl : fn.results = l.toArray) (hv : resOf m l = some vs) (a : Act) (ha : Fr n m a) (w : World) :
    (results fn a.tmps).run P w = .ok (tup vs) w := by
  have key : ∀ (g : ResultVar → Sem Value), (∀ t, g (.tmp t) = pure (a.tmps.getD t undef)) → ∀ (l : List ResultVar) (vs : List Value), resOf m l = some vs →
      (l.mapM g).run P w = .ok vs w := by
    intro g hg l
    induction l with
    | nil => intro vs h; simp only [resOf, Option.some.injEq] at h; subst h; rfl
    | cons x l ih =>
      intro vs h
      cases x with
      | tmp t =>
        simp only [resOf] at h
        split at h
        · rename_i v us h1 h2
          simp only [Option.some.injEq] at h
          subst h
          have ht := ha.get t v h1
          have hr := ih us h2
          simp only [List.mapM_cons, Sem.run_bind, hg, Sem.run_pure, Result.andThen_ok, hr]
          simp [ht]
        · cases h
      | cell b t => simp [resOf] at h
  have hsz : ∀ (us : List Value), (if h : us.toArray.size = 1 then us.toArray[0] else Value.tuple us.toArray) = tup us := by
    intro us
    cases us with
    | nil => rfl
    | cons u us => cases us with
      | nil => rfl
      | cons v us => simp [tup]
  unfold results
  rw [hl]
  simp only [List.mapM_toArray, Sem.run_bind, Sem.run_map]
  rw [key _ (fun t => rfl) l vs hv]
  simp only [Result.andThen_ok, Sem.run_pure]
  rw [hsz]
end
end Go.Proofs.YtmagdjlcckgkpaaGreat

/- The proof kit, second part: operations, and regions that draw their order. -/
namespace Go.Proofs.YtmagdjlcckgkpaaGreat
open Go.RowKit

section
variable (P : Program) (n : Nat) (w0 : World) (F0 : Nat → Prop)

/-- The operation yields v in every world in which H is held, and leaves the world alone. -/
def Flt (op : Op) (ty : TypeId) (m : Env) (H : List Res) (v : Value) : Prop :=
  ∀ (o : Oper) (a : Act) (w : World), o.op = op → o.type = ty → Fr n m a → Holds w0 F0 H w → (execOp a.eval o).run P w = .ok (.value v) w

/-- The operation goes from the resources H to what Φ says. -/
def Eff (op : Op) (ty : TypeId) (m : Env) (H : List Res) (w : World) (Φ : Value → List Res → Prop) : Prop :=
  ∀ (o : Oper) (a : Act) (K : Act → World → Prop) (Q : Exit → Act → World → Prop), o.op = op → o.type = ty → Fr n m a → Holds w0 F0 H w →
    (∀ v H' w', Φ v H' → Holds w0 F0 H' w' → K (a.put o.dst v) w') → o.wp P a w K Q
end

theorem wpList_imp {P : Program} {ops : Array Oper} {Q Q' : Exit → Act → World → Prop} (h : ∀ e a w, Q e a w → Q' e a w) : ∀ (l : List Oper) (a : Act) (w : World), wpList P ops Q l a w → wpList P ops Q' l a w
  | [], a, w, hq => h _ _ _ hq
  | o :: l, a, w, hq => by
    simp only [wpList] at hq ⊢
    split
    · rename_i hw
      simp only [hw, if_true] at hq
      rcases hq with hq | ⟨h1, a', w', h2⟩
      · left
        have := Oper.wp_mono (Q := Q) (wpList_imp h l) hq
        unfold Oper.wp at this ⊢
        generalize (execOp a.eval o).run P w = r at *
        cases r with
        | ok x w' =>
          cases x <;> simp only [Oper.upon] at this ⊢ <;> first
            | exact this
            | exact Calls.mono this (fun e w'' he => by cases e <;> first | exact he | exact h _ _ _ he | exact (let ⟨a0, w0, h0⟩ := he; ⟨a0, w0, h _ _ _ h0⟩))
        | halt x w' => cases x <;> simp only [Oper.upon] at this ⊢ <;> first | exact this | exact h _ _ _ this
      · exact .inr ⟨h1, a', w', h _ _ _ h2⟩
    · rename_i hw
      simp only [hw, if_false, Bool.false_eq_true] at hq
      exact wpList_imp h l _ _ hq

section
variable {P : Program} {n : Nat} {w0 : World} {F0 : Nat → Prop} {N R : Cond} {X : Nat → Cond} {m : Env} {H : List Res} {w : World}
  {ops : Array Oper} {rest : List Oper} {op : Op} {ty : TypeId} {pos : String} {af : Array Edge} {v : Value} {Φ : Value → List Res → Prop} {d : Nat}

theorem Flt.eff (h : Flt P n w0 F0 op ty m H v) : Eff P n w0 F0 op ty m H w (fun u H' => u = v ∧ H' = H) := fun o a K Q h1 h2 ha hh hk => by
  unfold Oper.wp
  rw [h o a w h1 h2 ha hh, Oper.upon_value]
  exact hk v H w ⟨rfl, rfl⟩ hh

theorem wl_f (h : Flt P n w0 F0 op ty m H v) (hk : WL P n w0 F0 ops N rest ((d, v) :: m) H w) (hd : Nat.blt d n = true := by rfl) :
    WL P n w0 F0 ops N (⟨some d, op, ty, pos, af, .none⟩ :: rest) m H w := fun a ha hh Q hQ =>
  wpList_plain rfl fun K hK => by
    unfold Oper.wp
    rw [h _ a w rfl rfl ha hh, Oper.upon_value]
    exact hK _ _ (hk _ (ha.put hd v) hh Q hQ)

theorem wl_e (h : Eff P n w0 F0 op ty m H w Φ) (hk : ∀ v H' w', Φ v H' → WL P n w0 F0 ops N rest ((d, v) :: m) H' w') (hd : Nat.blt d n = true := by rfl) :
    WL P n w0 F0 ops N (⟨some d, op, ty, pos, af, .none⟩ :: rest) m H w := fun a ha hh Q hQ =>
  wpList_plain rfl fun K hK => h _ a K Q rfl rfl ha hh fun v H' w' hp hh' => hK _ _ (hk v H' w' hp _ (ha.put hd v) hh' Q hQ)

theorem wl_e0 (h : Eff P n w0 F0 op ty m H w Φ) (hk : ∀ v H' w', Φ v H' → WL P n w0 F0 ops N rest m H' w') :
    WL P n w0 F0 ops N (⟨.none, op, ty, pos, af, .none⟩ :: rest) m H w := fun a ha hh Q hQ =>
  wpList_plain rfl fun K hK => h _ a K Q rfl rfl ha hh fun v H' w' hp hh' => hK _ _ (hk v H' w' hp _ ha hh' Q hQ)

theorem yielded_of {a : Act} {j t : Nat} {b : Bool} (ha : Fr n m a) (hj : (ops[j]?).bind (·.dst) = some t) (hl : lk m t = some (.bool b)) : yielded ops a.tmps j = some b := by
  unfold yielded
  rw [hj]
  simp [ha.get t _ hl]

theorem yielded_undef {a : Act} {j t : Nat} (ha : Fr n m a) (hj : (ops[j]?).bind (·.dst) = some t) (hl : lk m t = some undef) : yielded ops a.tmps j = .none := by
  unfold yielded
  rw [hj]
  simp [ha.get t _ hl, undef]

/-- A guarded operation that is carried out. -/
theorem wl_gf {j t : Nat} {b : Bool} (hj : (ops[j]?).bind (·.dst) = some t) (hl : lk m t = some (.bool b)) (h : Flt P n w0 F0 op ty m H v)
    (hk : WL P n w0 F0 ops N rest ((d, v) :: m) H w) (hd : Nat.blt d n = true := by rfl) :
    WL P n w0 F0 ops N (⟨some d, op, ty, pos, af, some (j, b)⟩ :: rest) m H w := fun a ha hh Q hQ =>
  wpList_step fun K hK => by
    have hw : Region.wanted (⟨some d, op, ty, pos, af, some (j, b)⟩ : Oper) (yielded ops a.tmps) = true := by
      simp [Region.wanted, yielded_of ha hj hl]
    rw [if_pos hw]
    unfold Oper.wp
    rw [h _ a w rfl rfl ha hh, Oper.upon_value]
    exact hK _ _ (hk _ (ha.put hd v) hh Q hQ)

theorem wl_ge {j t : Nat} {b : Bool} (hj : (ops[j]?).bind (·.dst) = some t) (hl : lk m t = some (.bool b)) (h : Eff P n w0 F0 op ty m H w Φ)
    (hk : ∀ v H' w', Φ v H' → WL P n w0 F0 ops N rest ((d, v) :: m) H' w') (hd : Nat.blt d n = true := by rfl) :
    WL P n w0 F0 ops N (⟨some d, op, ty, pos, af, some (j, b)⟩ :: rest) m H w := fun a ha hh Q hQ =>
  wpList_step fun K hK => by
    have hw : Region.wanted (⟨some d, op, ty, pos, af, some (j, b)⟩ : Oper) (yielded ops a.tmps) = true := by
      simp [Region.wanted, yielded_of ha hj hl]
    rw [if_pos hw]
    exact h _ a K Q rfl rfl ha hh fun v H' w' hp hh' => hK _ _ (hk v H' w' hp _ (ha.put hd v) hh' Q hQ)

/-- A guarded operation that is passed over. -/
theorem wl_gs {j t : Nat} {b : Bool} (hj : (ops[j]?).bind (·.dst) = some t) (hl : lk m t = some (.bool !b))
    (hk : WL P n w0 F0 ops N rest ((d, undef) :: m) H w) (hd : Nat.blt d n = true := by rfl) :
    WL P n w0 F0 ops N (⟨some d, op, ty, pos, af, some (j, b)⟩ :: rest) m H w := fun a ha hh Q hQ =>
  wpList_skip (by simp [Region.wanted, yielded_of ha hj hl]) (hk _ (ha.put hd undef) hh Q hQ)

/-- Passed over because its guard was passed over. -/
theorem wl_gu {j t : Nat} {b : Bool} (hj : (ops[j]?).bind (·.dst) = some t) (hl : lk m t = some undef)
    (hk : WL P n w0 F0 ops N rest ((d, undef) :: m) H w) (hd : Nat.blt d n = true := by rfl) :
    WL P n w0 F0 ops N (⟨some d, op, ty, pos, af, some (j, b)⟩ :: rest) m H w := fun a ha hh Q hQ =>
  wpList_skip (by simp [Region.wanted, yielded_undef ha hj hl]) (hk _ (ha.put hd undef) hh Q hQ)

/-- The end of a region: what is kept of the frame. -/
theorem wl_end (m' : Env) (hs : Sub m' m) (h : N m' H w) : WL P n w0 F0 ops N [] m H w := fun a ha hh _ hQ => wpList_nil (hQ a w ⟨m', H, ha.sub hs, hh, h⟩)

theorem wl_with {l : List Oper} (h : Holds w0 F0 H w → WL P n w0 F0 ops N l m H w) : WL P n w0 F0 ops N l m H w := fun a ha hh => h hh a ha hh
theorem wl_perm {l : List Oper} (H' : List Res) (hp : H.Perm H') (h : WL P n w0 F0 ops N l m H' w) : WL P n w0 F0 ops N l m H w := fun a ha hh => h a ha (hh.perm hp)
theorem wl_drop {l : List Oper} (H' : List Res) (hp : H'.Sublist H) (h : WL P n w0 F0 ops N l m H' w) : WL P n w0 F0 ops N l m H w := fun a ha hh => h a ha (hh.drop_ hp)

theorem wl_pick {l : List Oper} (is : List Nat) {L E : List Res} (hp : pick is H = some (L, E)) (h : WL P n w0 F0 ops N l m L w) : WL P n w0 F0 ops N l m H w := fun a ha hh => h a ha (hh.pick (pick_perm _ _ hp))
theorem wl_rm0 {l : List Oper} {r : Res} (h : WL P n w0 F0 ops N l m H w) : WL P n w0 F0 ops N l m (r :: H) w := fun a ha hh => h a ha (hh.drop_ (List.sublist_cons_self ..))
theorem wl_rm1 {l : List Oper} {r a : Res} (h : WL P n w0 F0 ops N l m (a :: H) w) : WL P n w0 F0 ops N l m (a :: r :: H) w := fun a ha hh => h a ha (hh.drop_ ((List.sublist_cons_self ..).cons_cons _))
theorem wl_rm2 {l : List Oper} {r a b : Res} (h : WL P n w0 F0 ops N l m (a :: b :: H) w) : WL P n w0 F0 ops N l m (a :: b :: r :: H) w := fun a ha hh => h a ha (hh.drop_ (((List.sublist_cons_self ..).cons_cons _).cons_cons _))
theorem wl_sw {l : List Oper} {r a : Res} (h : WL P n w0 F0 ops N l m (r :: a :: H) w) : WL P n w0 F0 ops N l m (a :: r :: H) w := fun x ha hh => h x ha (hh.perm (List.Perm.swap ..))
theorem w_rm0 {c : Code} {r : Res} (h : W P n w0 F0 c N R X m H w) : W P n w0 F0 c N R X m (r :: H) w := fun a ha hh => h a ha (hh.drop_ (List.sublist_cons_self ..))
theorem w_rm1 {c : Code} {r a : Res} (h : W P n w0 F0 c N R X m (a :: H) w) : W P n w0 F0 c N R X m (a :: r :: H) w := fun a ha hh => h a ha (hh.drop_ ((List.sublist_cons_self ..).cons_cons _))
theorem w_rm2 {c : Code} {r a b : Res} (h : W P n w0 F0 c N R X m (a :: b :: H) w) : W P n w0 F0 c N R X m (a :: b :: r :: H) w := fun a ha hh => h a ha (hh.drop_ (((List.sublist_cons_self ..).cons_cons _).cons_cons _))
theorem w_sw {c : Code} {r a : Res} (h : W P n w0 F0 c N R X m (r :: a :: H) w) : W P n w0 F0 c N R X m (a :: r :: H) w := fun x ha hh => h x ha (hh.perm (List.Perm.swap ..))

/-! ### '||' and '&&': a guarded piece whose guard is not decided -/

def cutAt {α : Type} : Nat → List α → List α × List α
  | 0, l => ([], l)
  | _ + 1, [] => ([], [])
  | k + 1, a :: l => (a :: (cutAt k l).1, (cutAt k l).2)
theorem cutAt_eq {α : Type} : ∀ (k : Nat) (l : List α), (cutAt k l).1 ++ (cutAt k l).2 = l
  | 0, l => rfl
  | _ + 1, [] => rfl
  | k + 1, a :: l => by simp [cutAt, cutAt_eq k l]

/-- All operations of the piece are passed over where operation j does not yield 'want'. -/
def skipOk (ops : Array Oper) (m : Env) (j : Nat) (want : Bool) : List Nat → List Oper → Bool
  | _, [] => true
  | U, ⟨some d, _, _, _, _, some (j', w')⟩ :: l =>
    ((Nat.beq j' j && (w' == want)) || (match (ops[j']?).bind (·.dst) with | some d' => U.contains d' | .none => false)) && (lk m d).isNone && skipOk ops m j want (d :: U) l
  | _, _ :: _ => false

def boolAt (a : Act) (u : Nat) : Option Bool := match a.tmps[u]? with | some (.bool b) => some b | _ => .none

theorem wl_skips {Q : Exit → Act → World → Prop} {j t : Nat} {want : Bool} (hj : (ops[j]?).bind (·.dst) = some t) (hl : lk m t = some (.bool !want)) :
    ∀ (l1 : List Oper) (U : List Nat) (a : Act) (rest : List Oper), skipOk ops m j want U l1 = true → Fr n m a → (∀ u ∈ U, boolAt a u = .none) →
      (∀ a', Fr n m a' → wpList P ops Q rest a' w) → wpList P ops Q (l1 ++ rest) a w
  | [], _, a, rest, _, ha, _, h => h a ha
  | ⟨some d, op, ty, pos, af, some (j', w')⟩ :: l, U, a, rest, hs, ha, hU, h => by
    simp only [skipOk, Bool.and_eq_true, Bool.or_eq_true] at hs
    obtain ⟨⟨hg, hd⟩, hrest⟩ := hs
    have hw : Region.wanted (⟨some d, op, ty, pos, af, some (j', w')⟩ : Oper) (yielded ops a.tmps) = false := by
      rcases hg with ⟨h1, h2⟩ | h2
      · have h1' := Nat.eq_of_beq_eq_true h1
        subst h1'
        have h2' : w' = want := by simpa using h2
        subst h2'
        simp [Region.wanted, yielded_of ha hj hl]
      · split at h2
        · rename_i d' hd'
          have := hU d' (by simpa using h2)
          have hy : yielded ops a.tmps j' = .none := by
            unfold yielded
            rw [hd']
            unfold boolAt at this
            simp only [Option.bind_some]
            cases hv : a.tmps[d']? with
            | none => rfl
            | some v => rw [hv] at this; cases v <;> first | rfl | (simp at this)
          simp [Region.wanted, hy]
        · cases h2
    have hkeep : Fr n m (a.put (some d) undef) := by
      refine ⟨by simpa [Act.put] using ha.size, ha.defers, fun t' v hv => ?_⟩
      have hne : d ≠ t' := by
        rintro rfl
        simp [hv] at hd
      simp only [Act.put]
      rw [Array.getElem?_setIfInBounds_ne hne]
      exact ha.get t' v hv
    refine wpList_skip hw (wl_skips hj hl l (d :: U) _ rest hrest hkeep ?_ h)
    intro u hu
    by_cases hud : u = d
    · subst hud
      unfold boolAt
      simp only [Act.put]
      by_cases hlt : u < a.tmps.size
      · rw [Array.getElem?_setIfInBounds_self_of_lt hlt]; rfl
      · rw [Array.getElem?_eq_none (by simp only [Array.size_setIfInBounds]; omega)]
    · have := hU u ((List.mem_cons.1 hu).resolve_left hud)
      unfold boolAt at this ⊢
      simp only [Act.put]
      rw [Array.getElem?_setIfInBounds_ne (fun e => hud e.symm)]
      exact this
  | ⟨.none, _, _, _, _, _⟩ :: _, _, _, _, hs, _, _, _ => by simp [skipOk] at hs
  | ⟨some _, _, _, _, _, .none⟩ :: _, _, _, _, hs, _, _, _ => by simp [skipOk] at hs

theorem wpList_append' {Q : Exit → Act → World → Prop} : ∀ (l1 l2 : List Oper) (a : Act) (w : World),
    (∀ Q' : Exit → Act → World → Prop, (∀ a' w', wpList P ops Q l2 a' w' → Q' .normal a' w') → (∀ e a' w', e ≠ .normal → Q e a' w' → Q' e a' w') → wpList P ops Q' l1 a w) →
    wpList P ops Q (l1 ++ l2) a w := by
  intro l1
  induction l1 with
  | nil =>
    intro l2 a w h
    have := h (fun e a' w' => match e with | .normal => wpList P ops Q l2 a' w' | e => Q e a' w') (fun _ _ h => h) (fun e a' w' hne hq => by cases e <;> first | exact hq | exact absurd rfl hne)
    exact this
  | cons o l1 ih =>
    intro l2 a w h
    have key := h (Exit.then (wpList P ops Q l2) Q) (fun _ _ h => h) (fun e a' w' hne hq => by cases e <;> first | exact hq | exact absurd rfl hne)
    have mono : ∀ a' w', wpList P ops (Exit.then (wpList P ops Q l2) Q) l1 a' w' → wpList P ops Q (l1 ++ l2) a' w' := by
      intro a' w' hk
      refine ih l2 a' w' fun Q' hn he => ?_
      refine wpList_imp ?_ l1 a' w' hk
      intro e a'' w'' hq
      cases e with
      | normal => exact hn _ _ hq
      | exit i => exact he _ _ _ (by simp) hq
      | goto i => exact he _ _ _ (by simp) hq
      | ret => exact he _ _ _ (by simp) hq
      | panic c => exact he _ _ _ (by simp) hq
      | outgrown => exact he _ _ _ (by simp) hq
    simp only [List.cons_append, wpList] at key ⊢
    split
    · rename_i hw
      simp only [hw, if_true] at key
      rcases key with key | ⟨h1, h2⟩
      · left
        have := Oper.wp_mono (o := o) (a := a) (w := w) (Q := Exit.then (wpList P ops Q l2) Q) mono key
        unfold Oper.wp at this ⊢
        generalize (execOp a.eval o).run P w = r at *
        cases r with
        | ok x w' =>
          cases x <;> simp only [Oper.upon] at this ⊢ <;> first
            | exact this
            | exact Calls.mono this (fun e w'' he => by cases e <;> exact he)
        | halt x w' => cases x <;> simp only [Oper.upon] at this ⊢ <;> exact this
      · exact .inr ⟨h1, h2⟩
    · rename_i hw
      simp only [hw, if_false, Bool.false_eq_true] at key
      exact mono _ _ key

/-- 'b || c': the piece of k operations that computes c is guarded by 'b is false'; then comes the pick. -/
theorem wl_or {l l1 : List Oper} {t t2 j : Nat} {b c : Bool} (k : Nat) (m0 : Env) (hs0 : Sub m0 m) (hl : cutAt k l = (l1, ⟨some d, .pick (.tmp t) (.const (.bool true)) (.tmp t2), ty, pos, af, .none⟩ :: rest))
    (hj : (ops[j]?).bind (·.dst) = some t) (hb : lk m t = some (.bool b)) (hs : skipOk ops m j false [] l1 = true) (hd : Nat.blt d n = true)
    (h1 : b = false → WL P n w0 F0 ops (fun m' H' _ => lk m' t2 = some (.bool c) ∧ lk m' t = some (.bool false) ∧ Sub m0 m' ∧ H.Sublist H') l1 ((t, .bool false) :: m) H w)
    (hk : ∀ w', WL P n w0 F0 ops N rest ((d, .bool (b || c)) :: m0) H w') : WL P n w0 F0 ops N l m H w := fun a ha hh Q hQ => by
  have e : l = l1 ++ (⟨some d, .pick (.tmp t) (.const (.bool true)) (.tmp t2), ty, pos, af, .none⟩ :: rest) := by
    have := cutAt_eq k l; rw [hl] at this; exact this.symm
  rw [e]
  cases b with
  | true =>
    refine wl_skips hj hb l1 [] a _ hs ha (by simp) fun a' ha' => ?_
    refine wpList_plain rfl fun K hK => ?_
    unfold Oper.wp
    have hx : a'.eval (.tmp t) = .bool true := ha'.eval (x := .tmp t) hb
    have : (execOp a'.eval ⟨some d, .pick (.tmp t) (.const (.bool true)) (.tmp t2), ty, pos, af, .none⟩).run P w = .ok (.value (.bool true)) w := by
      simp only [execOp, hx, asBool, Sem.run_bind, Sem.run_pure, Result.andThen_ok]; rfl
    rw [this, Oper.upon_value]
    exact hK _ _ (hk _ _ ((ha'.sub hs0).put hd _) hh Q hQ)
  | false =>
    refine wpList_append' _ _ _ _ fun Q' hn he => ?_
    refine h1 rfl a ⟨ha.size, ha.defers, fun t' v hv => ?_⟩ hh Q' ?_
    · simp only [lk] at hv
      by_cases h : t = t'
      · subst h; simp only [Nat.beq_refl, cond_true, Option.some.injEq] at hv; subst hv; exact ha.get t _ hb
      · have hf : Nat.beq t t' = false := by
          cases hq : Nat.beq t t' with
          | false => rfl
          | true => exact absurd (Nat.eq_of_beq_eq_true hq) h
        simp only [hf, cond_false] at hv
        exact ha.get t' v hv
    · rintro a' w' ⟨m', H', ha', hh', hc, ht, hsub, hsl⟩
      refine hn _ _ (wpList_plain rfl fun K hK => ?_)
      unfold Oper.wp
      have hx : a'.eval (.tmp t) = .bool false := ha'.eval (x := .tmp t) ht
      have hy : a'.eval (.tmp t2) = .bool c := ha'.eval (x := .tmp t2) hc
      have : (execOp a'.eval ⟨some d, .pick (.tmp t) (.const (.bool true)) (.tmp t2), ty, pos, af, .none⟩).run P w' = .ok (.value (.bool c)) w' := by
        simp [execOp, hx, hy, asBool]
      rw [this, Oper.upon_value]
      exact hK _ _ (hk _ _ ((ha'.sub hsub).put hd _) (hh'.drop_ hsl) Q hQ)

theorem wl_and {l l1 : List Oper} {t t2 j : Nat} {b c : Bool} (k : Nat) (m0 : Env) (hs0 : Sub m0 m) (hl : cutAt k l = (l1, ⟨some d, .pick (.tmp t) (.tmp t2) (.const (.bool false)), ty, pos, af, .none⟩ :: rest))
    (hj : (ops[j]?).bind (·.dst) = some t) (hb : lk m t = some (.bool b)) (hs : skipOk ops m j true [] l1 = true) (hd : Nat.blt d n = true)
    (h1 : b = true → WL P n w0 F0 ops (fun m' H' _ => lk m' t2 = some (.bool c) ∧ lk m' t = some (.bool true) ∧ Sub m0 m' ∧ H.Sublist H') l1 ((t, .bool true) :: m) H w)
    (hk : ∀ w', WL P n w0 F0 ops N rest ((d, .bool (b && c)) :: m0) H w') : WL P n w0 F0 ops N l m H w := fun a ha hh Q hQ => by
  have e : l = l1 ++ (⟨some d, .pick (.tmp t) (.tmp t2) (.const (.bool false)), ty, pos, af, .none⟩ :: rest) := by
    have := cutAt_eq k l; rw [hl] at this; exact this.symm
  rw [e]
  cases b with
  | false =>
    refine wl_skips hj hb l1 [] a _ hs ha (by simp) fun a' ha' => ?_
    refine wpList_plain rfl fun K hK => ?_
    unfold Oper.wp
    have hx : a'.eval (.tmp t) = .bool false := ha'.eval (x := .tmp t) hb
    have : (execOp a'.eval ⟨some d, .pick (.tmp t) (.tmp t2) (.const (.bool false)), ty, pos, af, .none⟩).run P w = .ok (.value (.bool false)) w := by
      simp only [execOp, hx, asBool, Sem.run_bind, Sem.run_pure, Result.andThen_ok]; rfl
    rw [this, Oper.upon_value]
    exact hK _ _ (hk _ _ ((ha'.sub hs0).put hd _) hh Q hQ)
  | true =>
    refine wpList_append' _ _ _ _ fun Q' hn he => ?_
    refine h1 rfl a ⟨ha.size, ha.defers, fun t' v hv => ?_⟩ hh Q' ?_
    · simp only [lk] at hv
      by_cases h : t = t'
      · subst h; simp only [Nat.beq_refl, cond_true, Option.some.injEq] at hv; subst hv; exact ha.get t _ hb
      · have hf : Nat.beq t t' = false := by
          cases hq : Nat.beq t t' with
          | false => rfl
          | true => exact absurd (Nat.eq_of_beq_eq_true hq) h
        simp only [hf, cond_false] at hv
        exact ha.get t' v hv
    · rintro a' w' ⟨m', H', ha', hh', hc, ht, hsub, hsl⟩
      refine hn _ _ (wpList_plain rfl fun K hK => ?_)
      unfold Oper.wp
      have hx : a'.eval (.tmp t) = .bool true := ha'.eval (x := .tmp t) ht
      have hy : a'.eval (.tmp t2) = .bool c := ha'.eval (x := .tmp t2) hc
      have : (execOp a'.eval ⟨some d, .pick (.tmp t) (.tmp t2) (.const (.bool false)), ty, pos, af, .none⟩).run P w' = .ok (.value (.bool c)) w' := by
        simp [execOp, hx, hy, asBool]
      rw [this, Oper.upon_value]
      exact hK _ _ (hk _ _ ((ha'.sub hsub).put hd _) (hh'.drop_ hsl) Q hQ)

/-- .. where the pick itself is guarded. -/
theorem wl_org {l l1 : List Oper} {t t2 j : Nat} {b c : Bool} {j' t' : Nat} {b' : Bool} (k : Nat) (m0 : Env) (hs0 : Sub m0 m) (hl : cutAt k l = (l1, ⟨some d, .pick (.tmp t) (.const (.bool true)) (.tmp t2), ty, pos, af, some (j', b')⟩ :: rest))
    (hj : (ops[j]?).bind (·.dst) = some t) (hb : lk m t = some (.bool b)) (hs : skipOk ops m j false [] l1 = true) (hd : Nat.blt d n = true) (hj' : (ops[j']?).bind (·.dst) = some t') (hb' : lk m0 t' = some (.bool b'))
    (h1 : b = false → WL P n w0 F0 ops (fun m' H' _ => lk m' t2 = some (.bool c) ∧ lk m' t = some (.bool false) ∧ Sub m0 m' ∧ H.Sublist H') l1 ((t, .bool false) :: m) H w)
    (hk : ∀ w', WL P n w0 F0 ops N rest ((d, .bool (b || c)) :: m0) H w') : WL P n w0 F0 ops N l m H w := fun a ha hh Q hQ => by
  have e : l = l1 ++ (⟨some d, .pick (.tmp t) (.const (.bool true)) (.tmp t2), ty, pos, af, some (j', b')⟩ :: rest) := by
    have := cutAt_eq k l; rw [hl] at this; exact this.symm
  rw [e]
  cases b with
  | true =>
    refine wl_skips hj hb l1 [] a _ hs ha (by simp) fun a' ha' => ?_
    refine wpList_step fun K hK => ?_
    rw [if_pos (by simp [Region.wanted, yielded_of (ha'.sub hs0) hj' hb'])]
    unfold Oper.wp
    have hx : a'.eval (.tmp t) = .bool true := ha'.eval (x := .tmp t) hb
    have : (execOp a'.eval ⟨some d, .pick (.tmp t) (.const (.bool true)) (.tmp t2), ty, pos, af, some (j', b')⟩).run P w = .ok (.value (.bool true)) w := by
      simp only [execOp, hx, asBool, Sem.run_bind, Sem.run_pure, Result.andThen_ok]; rfl
    rw [this, Oper.upon_value]
    exact hK _ _ (hk _ _ ((ha'.sub hs0).put hd _) hh Q hQ)
  | false =>
    refine wpList_append' _ _ _ _ fun Q' hn he => ?_
    refine h1 rfl a ⟨ha.size, ha.defers, fun t9 v hv => ?_⟩ hh Q' ?_
    · simp only [lk] at hv
      by_cases h : t = t9
      · subst h; simp only [Nat.beq_refl, cond_true, Option.some.injEq] at hv; subst hv; exact ha.get t _ hb
      · have hf : Nat.beq t t9 = false := by
          cases hq : Nat.beq t t9 with
          | false => rfl
          | true => exact absurd (Nat.eq_of_beq_eq_true hq) h
        simp only [hf, cond_false] at hv
        exact ha.get t9 v hv
    · rintro a' w' ⟨m', H', ha', hh', hc, ht, hsub, hsl⟩
      refine hn _ _ (wpList_step fun K hK => ?_)
      rw [if_pos (by simp [Region.wanted, yielded_of (ha'.sub hsub) hj' hb'])]
      unfold Oper.wp
      have hx : a'.eval (.tmp t) = .bool false := ha'.eval (x := .tmp t) ht
      have hy : a'.eval (.tmp t2) = .bool c := ha'.eval (x := .tmp t2) hc
      have : (execOp a'.eval ⟨some d, .pick (.tmp t) (.const (.bool true)) (.tmp t2), ty, pos, af, some (j', b')⟩).run P w' = .ok (.value (.bool c)) w' := by
        simp [execOp, hx, hy, asBool]
      rw [this, Oper.upon_value]
      exact hK _ _ (hk _ _ ((ha'.sub hsub).put hd _) (hh'.drop_ hsl) Q hQ)

theorem wl_andg {l l1 : List Oper} {t t2 j : Nat} {b c : Bool} {j' t' : Nat} {b' : Bool} (k : Nat) (m0 : Env) (hs0 : Sub m0 m) (hl : cutAt k l = (l1, ⟨some d, .pick (.tmp t) (.tmp t2) (.const (.bool false)), ty, pos, af, some (j', b')⟩ :: rest))
    (hj : (ops[j]?).bind (·.dst) = some t) (hb : lk m t = some (.bool b)) (hs : skipOk ops m j true [] l1 = true) (hd : Nat.blt d n = true) (hj' : (ops[j']?).bind (·.dst) = some t') (hb' : lk m0 t' = some (.bool b'))
    (h1 : b = true → WL P n w0 F0 ops (fun m' H' _ => lk m' t2 = some (.bool c) ∧ lk m' t = some (.bool true) ∧ Sub m0 m' ∧ H.Sublist H') l1 ((t, .bool true) :: m) H w)
    (hk : ∀ w', WL P n w0 F0 ops N rest ((d, .bool (b && c)) :: m0) H w') : WL P n w0 F0 ops N l m H w := fun a ha hh Q hQ => by
  have e : l = l1 ++ (⟨some d, .pick (.tmp t) (.tmp t2) (.const (.bool false)), ty, pos, af, some (j', b')⟩ :: rest) := by
    have := cutAt_eq k l; rw [hl] at this; exact this.symm
  rw [e]
  cases b with
  | false =>
    refine wl_skips hj hb l1 [] a _ hs ha (by simp) fun a' ha' => ?_
    refine wpList_step fun K hK => ?_
    rw [if_pos (by simp [Region.wanted, yielded_of (ha'.sub hs0) hj' hb'])]
    unfold Oper.wp
    have hx : a'.eval (.tmp t) = .bool false := ha'.eval (x := .tmp t) hb
    have : (execOp a'.eval ⟨some d, .pick (.tmp t) (.tmp t2) (.const (.bool false)), ty, pos, af, some (j', b')⟩).run P w = .ok (.value (.bool false)) w := by
      simp only [execOp, hx, asBool, Sem.run_bind, Sem.run_pure, Result.andThen_ok]; rfl
    rw [this, Oper.upon_value]
    exact hK _ _ (hk _ _ ((ha'.sub hs0).put hd _) hh Q hQ)
  | true =>
    refine wpList_append' _ _ _ _ fun Q' hn he => ?_
    refine h1 rfl a ⟨ha.size, ha.defers, fun t9 v hv => ?_⟩ hh Q' ?_
    · simp only [lk] at hv
      by_cases h : t = t9
      · subst h; simp only [Nat.beq_refl, cond_true, Option.some.injEq] at hv; subst hv; exact ha.get t _ hb
      · have hf : Nat.beq t t9 = false := by
          cases hq : Nat.beq t t9 with
          | false => rfl
          | true => exact absurd (Nat.eq_of_beq_eq_true hq) h
        simp only [hf, cond_false] at hv
        exact ha.get t9 v hv
    · rintro a' w' ⟨m', H', ha', hh', hc, ht, hsub, hsl⟩
      refine hn _ _ (wpList_step fun K hK => ?_)
      rw [if_pos (by simp [Region.wanted, yielded_of (ha'.sub hsub) hj' hb'])]
      unfold Oper.wp
      have hx : a'.eval (.tmp t) = .bool true := ha'.eval (x := .tmp t) ht
      have hy : a'.eval (.tmp t2) = .bool c := ha'.eval (x := .tmp t2) hc
      have : (execOp a'.eval ⟨some d, .pick (.tmp t) (.tmp t2) (.const (.bool false)), ty, pos, af, some (j', b')⟩).run P w' = .ok (.value (.bool c)) w' := by
        simp [execOp, hx, hy, asBool]
      rw [this, Oper.upon_value]
      exact hK _ _ (hk _ _ ((ha'.sub hsub).put hd _) (hh'.drop_ hsl) Q hQ)

/-- The end of such a piece. -/
theorem wl_pend {t t2 : Nat} {b c : Bool} {m0 : Env} {H0 : List Res} (h1 : lk m t2 = some (.bool c)) (ht : lk m t = some (.bool b)) (h2 : Sub m0 m) (h3 : H0.Sublist H) : WL P n w0 F0 ops (fun m' H' _ => lk m' t2 = some (.bool c) ∧ lk m' t = some (.bool b) ∧ Sub m0 m' ∧ H0.Sublist H') [] m H w :=
  fun a ha hh _ hQ => wpList_nil (hQ a w ⟨m, H, ha, hh, h1, ht, h2, h3⟩)

/-! ### Regions that draw their order -/

def okOrd (ops : Array Oper) : Array Bool → List (Nat × Bool) → Bool
  | listed, [] => (Region.ready .any ops listed).isEmpty
  | listed, (i, fl) :: σ =>
    (bif fl then Region.free .any ops listed i && (Region.ready .any ops listed).contains i else Region.ready .any ops listed == [i]) && okOrd ops (listed.setIfInBounds i true) σ

/-- What is left of the region, taken in the order σ: a float is marked true. Hst: the resources that no operation of the region changes. -/
def WD (P : Program) (n : Nat) (w0 : World) (F0 : Nat → Prop) (ops : Array Oper) (N : Cond) (Hst : List Res) : List (Nat × Bool) → Env → List Res → World → Prop
  | [], m, H, w => ∃ m' L, Sub m' m ∧ (∃ E, (Hst ++ H).Perm (L ++ E)) ∧ N m' L w
  | (i, true) :: σ, m, H, w => ∃ d op ty pos af g v, ops[i]? = some ⟨some d, op, ty, pos, af, g⟩ ∧ Nat.blt d n = true ∧
      ((Flt P n w0 F0 op ty m Hst v ∧ (g = .none ∨ ∃ j b t, g = some (j, b) ∧ (ops[j]?).bind (·.dst) = some t ∧ lk m t = some (.bool b))) ∨
       (v = undef ∧ ∃ j b t, g = some (j, b) ∧ (ops[j]?).bind (·.dst) = some t ∧ (lk m t = some (.bool !b) ∨ lk m t = some undef))) ∧
      WD P n w0 F0 ops N Hst σ ((d, v) :: m) H w
  | (i, false) :: σ, m, H, w => ∃ dst op ty pos af g, ops[i]? = some ⟨dst, op, ty, pos, af, g⟩ ∧ (match dst with | some d => Nat.blt d n = true | .none => True) ∧
      ((∃ Φ, (g = .none ∨ ∃ j b t, g = some (j, b) ∧ (ops[j]?).bind (·.dst) = some t ∧ lk m t = some (.bool b)) ∧ Eff P n w0 F0 op ty m (Hst ++ H) w Φ ∧
        ∀ v H' w', Φ v H' → ∃ H'', H'.Perm (Hst ++ H'') ∧ WD P n w0 F0 ops N Hst σ (match dst with | some d => (d, v) :: m | .none => m) H'' w') ∨
       ((∃ j b t, g = some (j, b) ∧ (ops[j]?).bind (·.dst) = some t ∧ (lk m t = some (.bool !b) ∨ lk m t = some undef)) ∧
        WD P n w0 F0 ops N Hst σ (match dst with | some d => (d, undef) :: m | .none => m) H w))

theorem perm_all (H : List Res) : H.Perm (H ++ []) := by simp

theorem wanted_none {o : Oper} (h : o.guard = .none) (y : Nat → Option Bool) : Region.wanted o y = true := by simp [Region.wanted, h]

theorem wd_sound {Hst : List Res} (hns : Region.noSelect ops = true) (Q : Exit → Act → World → Prop) (hpan : ∀ c a w, ¬ Q (.panic c) a w)
    (hQ : ∀ a' w', (∃ m' H', Fr n m' a' ∧ Holds w0 F0 H' w' ∧ N m' H' w') → Q .normal a' w') :
    ∀ (σ : List (Nat × Bool)) (fuel : Nat) (listed : Array Bool) (m : Env) (H : List Res) (a : Act) (w : World), σ.length ≤ fuel → okOrd ops listed σ = true →
      Fr n m a → Holds w0 F0 (Hst ++ H) w → WD P n w0 F0 ops N Hst σ m H w →
      wpAnyH P .any ops Q (fun w' => ∃ H', Holds w0 F0 (Hst ++ H') w') fuel listed a w
  | [], fuel, listed, m, H, a, w, _, hok, ha, hh, hd => by
    obtain ⟨m', L, hs, ⟨E, hE⟩, hN⟩ := hd
    simp only [okOrd, List.isEmpty_iff] at hok
    exact wpAnyH_done hok (hQ a w ⟨m', L, ha.sub hs, hh.pick hE, hN⟩) fuel
  | (i, true) :: σ, 0, _, _, _, _, _, hl, _, _, _, _ => by simp at hl
  | (i, false) :: σ, 0, _, _, _, _, _, hl, _, _, _, _ => by simp at hl
  | (i, true) :: σ, fuel + 1, listed, m, H, a, w, hl, hok, ha, hh, hd => by
    obtain ⟨d, op, ty, pos, af, g, v, hi, hdn, hv, hrest⟩ := hd
    simp only [okOrd, cond_true, Bool.and_eq_true] at hok
    refine wpAnyH_take hi hns hok.1.1 hok.1.2 (fun c a w h => (hpan _ _ _ h).elim) ?_ ⟨H, hh⟩
      (wd_sound hns Q hpan hQ σ fuel _ ((d, v) :: m) H _ w (by simpa using hl) hok.2 (ha.put hdn v) hh hrest)
    rcases hv with ⟨hf, hg⟩ | ⟨rfl, j, b, t, rfl, hj, hlk⟩
    · refine .inl ⟨?_, fun w' ⟨H', hh'⟩ => hf _ a w' rfl rfl ha (hh'.drop_ (List.sublist_append_left _ _))⟩
      rcases hg with rfl | ⟨j, b, t, rfl, hj, hlk⟩
      · rfl
      · simp [Region.wanted, yielded_of ha hj hlk]
    · refine .inr ⟨?_, rfl⟩
      rcases hlk with hlk | hlk
      · simp [Region.wanted, yielded_of ha hj hlk]
      · simp [Region.wanted, yielded_undef ha hj hlk]
  | (i, false) :: σ, fuel + 1, listed, m, H, a, w, hl, hok, ha, hh, hd => by
    obtain ⟨dst, op, ty, pos, af, g, hi, hdn, hv⟩ := hd
    simp only [okOrd, cond_false, Bool.and_eq_true, beq_iff_eq] at hok
    refine wpAnyH_all hok.1 (by simp) fun k hk => ?_
    obtain rfl : k = i := by simpa using hk
    have put : ∀ v, Fr n (match dst with | some d => (d, v) :: m | .none => m) (a.put dst v) := by
      intro v
      cases dst with
      | none => exact ha
      | some d => exact ha.put hdn v
    rcases hv with ⟨Φ, hg, he, hk⟩ | ⟨⟨j, b, t, rfl, hj, hlk⟩, hk⟩
    · have hw : Region.wanted (⟨dst, op, ty, pos, af, g⟩ : Oper) (yielded ops a.tmps) = true := by
        rcases hg with rfl | ⟨j, b, t, rfl, hj, hlk⟩
        · rfl
        · simp [Region.wanted, yielded_of ha hj hlk]
      unfold wpOp
      simp only [hi, hw, if_true]
      refine .inl (he _ a _ Q rfl rfl ha hh fun v H' w' hp hh' => ?_)
      obtain ⟨H'', hpm, hwd⟩ := hk v H' w' hp
      have hh'' := hh'.perm hpm
      exact ⟨⟨H'', hh''⟩, wd_sound hns Q hpan hQ σ fuel _ _ H'' _ w' (by simpa using hl) hok.2 (put v) hh'' hwd⟩
    · have hw : Region.wanted (⟨dst, op, ty, pos, af, some (j, b)⟩ : Oper) (yielded ops a.tmps) = false := by
        rcases hlk with hlk | hlk
        · simp [Region.wanted, yielded_of ha hj hlk]
        · simp [Region.wanted, yielded_undef ha hj hlk]
      unfold wpOp
      simp only [hi, hw, Bool.false_eq_true, if_false]
      exact ⟨⟨H, hh⟩, wd_sound hns Q hpan hQ σ fuel _ _ H _ w (by simpa using hl) hok.2 (put undef) hh hk⟩

theorem Holds.drew (h : Holds w0 F0 H w) : Holds w0 F0 H { w with drawn := w.drawn + 1 } :=
  ⟨h.1.trans (Frm.drew (fun _ => False) w) (fun _ hx => hx.elim), h.2.keep (fun _ _ _ _ => rfl) (Nat.le_refl _)⟩

/-- A region that draws its order: σ is an order in which floats come as soon as they may. -/
theorem w_draw {id : Nat} (σ : List (Nat × Bool)) (Hst Hm : List Res) (hm : P.follows .mixedOrders = true) (hns : Region.noSelect ops = true)
    (hok : okOrd ops (Array.replicate ops.size false) σ = true) (hlen : Nat.ble σ.length ops.size = true) (hH : H.Perm (Hst ++ Hm)) (h : ∀ w', WD P n w0 F0 ops N Hst σ m Hm w') :
    W P n w0 F0 (.region id ops true) N R X m H w := fun a ha hh => by
  have hh' := (hh.perm hH).drew
  refine wp_region_held (S := fun w' => ∃ H', Holds w0 F0 (Hst ++ H') w') hm ?_
  exact wd_sound hns _ (fun _ _ _ h => h) (fun _ _ hq => hq) σ _ _ m Hm a _ (Nat.le_of_ble_eq_true hlen) hok ha hh' (h _)

variable {Hst : List Res} {σ : List (Nat × Bool)} {i : Nat} {g : Option (Nat × Bool)}

theorem wd_f (hi : ops[i]? = some ⟨some d, op, ty, pos, af, .none⟩) (h : Flt P n w0 F0 op ty m Hst v) (hk : WD P n w0 F0 ops N Hst σ ((d, v) :: m) H w)
    (hd : Nat.blt d n = true := by rfl) : WD P n w0 F0 ops N Hst ((i, true) :: σ) m H w :=
  ⟨d, op, ty, pos, af, .none, v, hi, hd, .inl ⟨h, .inl rfl⟩, hk⟩
theorem wd_gf {j t : Nat} {b : Bool} (hi : ops[i]? = some ⟨some d, op, ty, pos, af, some (j, b)⟩) (hj : (ops[j]?).bind (·.dst) = some t) (hl : lk m t = some (.bool b))
    (h : Flt P n w0 F0 op ty m Hst v) (hk : WD P n w0 F0 ops N Hst σ ((d, v) :: m) H w)
    (hd : Nat.blt d n = true := by rfl) : WD P n w0 F0 ops N Hst ((i, true) :: σ) m H w :=
  ⟨d, op, ty, pos, af, _, v, hi, hd, .inl ⟨h, .inr ⟨j, b, t, rfl, hj, hl⟩⟩, hk⟩
theorem wd_gs {j t : Nat} {b : Bool} (hi : ops[i]? = some ⟨some d, op, ty, pos, af, some (j, b)⟩) (hj : (ops[j]?).bind (·.dst) = some t) (hl : lk m t = some (.bool !b))
    (hk : WD P n w0 F0 ops N Hst σ ((d, undef) :: m) H w)
    (hd : Nat.blt d n = true := by rfl) : WD P n w0 F0 ops N Hst ((i, true) :: σ) m H w :=
  ⟨d, op, ty, pos, af, _, undef, hi, hd, .inr ⟨rfl, j, b, t, rfl, hj, .inl hl⟩, hk⟩
theorem wd_gu {j t : Nat} {b : Bool} (hi : ops[i]? = some ⟨some d, op, ty, pos, af, some (j, b)⟩) (hj : (ops[j]?).bind (·.dst) = some t) (hl : lk m t = some undef)
    (hk : WD P n w0 F0 ops N Hst σ ((d, undef) :: m) H w)
    (hd : Nat.blt d n = true := by rfl) : WD P n w0 F0 ops N Hst ((i, true) :: σ) m H w :=
  ⟨d, op, ty, pos, af, _, undef, hi, hd, .inr ⟨rfl, j, b, t, rfl, hj, .inr hl⟩, hk⟩
theorem wd_e (hi : ops[i]? = some ⟨some d, op, ty, pos, af, .none⟩) (h : Eff P n w0 F0 op ty m (Hst ++ H) w Φ)
    (hk : ∀ v H' w', Φ v H' → ∃ H'', H'.Perm (Hst ++ H'') ∧ WD P n w0 F0 ops N Hst σ ((d, v) :: m) H'' w')
    (hd : Nat.blt d n = true := by rfl) : WD P n w0 F0 ops N Hst ((i, false) :: σ) m H w :=
  ⟨some d, op, ty, pos, af, .none, hi, hd, .inl ⟨Φ, .inl rfl, h, hk⟩⟩
theorem wd_e0 (hi : ops[i]? = some ⟨.none, op, ty, pos, af, .none⟩) (h : Eff P n w0 F0 op ty m (Hst ++ H) w Φ)
    (hk : ∀ v H' w', Φ v H' → ∃ H'', H'.Perm (Hst ++ H'') ∧ WD P n w0 F0 ops N Hst σ m H'' w') : WD P n w0 F0 ops N Hst ((i, false) :: σ) m H w :=
  ⟨.none, op, ty, pos, af, .none, hi, trivial, .inl ⟨Φ, .inl rfl, h, hk⟩⟩
theorem wd_ge {j t : Nat} {b : Bool} (hi : ops[i]? = some ⟨some d, op, ty, pos, af, some (j, b)⟩) (hj : (ops[j]?).bind (·.dst) = some t) (hl : lk m t = some (.bool b))
    (h : Eff P n w0 F0 op ty m (Hst ++ H) w Φ)
    (hk : ∀ v H' w', Φ v H' → ∃ H'', H'.Perm (Hst ++ H'') ∧ WD P n w0 F0 ops N Hst σ ((d, v) :: m) H'' w')
    (hd : Nat.blt d n = true := by rfl) : WD P n w0 F0 ops N Hst ((i, false) :: σ) m H w :=
  ⟨some d, op, ty, pos, af, _, hi, hd, .inl ⟨Φ, .inr ⟨j, b, t, rfl, hj, hl⟩, h, hk⟩⟩
theorem wd_ges {j t : Nat} {b : Bool} (hi : ops[i]? = some ⟨some d, op, ty, pos, af, some (j, b)⟩) (hj : (ops[j]?).bind (·.dst) = some t) (hl : lk m t = some (.bool !b))
    (hk : WD P n w0 F0 ops N Hst σ ((d, undef) :: m) H w)
    (hd : Nat.blt d n = true := by rfl) : WD P n w0 F0 ops N Hst ((i, false) :: σ) m H w :=
  ⟨some d, op, ty, pos, af, _, hi, hd, .inr ⟨⟨j, b, t, rfl, hj, .inl hl⟩, hk⟩⟩
theorem wd_geu {j t : Nat} {b : Bool} (hi : ops[i]? = some ⟨some d, op, ty, pos, af, some (j, b)⟩) (hj : (ops[j]?).bind (·.dst) = some t) (hl : lk m t = some undef)
    (hk : WD P n w0 F0 ops N Hst σ ((d, undef) :: m) H w)
    (hd : Nat.blt d n = true := by rfl) : WD P n w0 F0 ops N Hst ((i, false) :: σ) m H w :=
  ⟨some d, op, ty, pos, af, _, hi, hd, .inr ⟨⟨j, b, t, rfl, hj, .inr hl⟩, hk⟩⟩
theorem wd_end (m' : Env) (hs : Sub m' m) (h : N m' (Hst ++ H) w) : WD P n w0 F0 ops N Hst [] m H w := ⟨m', _, hs, ⟨[], by simp⟩, h⟩
theorem wd_endp (m' : Env) (is : List Nat) {L E : List Res} (hs : Sub m' m) (hp : pick is (Hst ++ H) = some (L, E)) (h : N m' L w) : WD P n w0 F0 ops N Hst [] m H w := ⟨m', L, hs, ⟨E, pick_perm _ _ hp⟩, h⟩
end
end Go.Proofs.YtmagdjlcckgkpaaGreat

/- The proof kit, third part: the rules of the operations that compute. -/
namespace Go.Proofs.YtmagdjlcckgkpaaGreat
open Go.RowKit

section
variable {P : Program} {n : Nat} {w0 : World} {F0 : Nat → Prop} {m : Env} {H : List Res} {w : World} {ty : TypeId}
  {x y c : Operand} {v vx vy : Value} {k : IntKind} {p q r : Int}

theorem f_move (hx : ev m x = some v) : Flt P n w0 F0 (.move x) ty m H v := fun o a w h1 h2 ha hh => by
  simp [execOp, h1, ha.eval hx]
theorem f_assign (hx : ev m x = some v) : Flt P n w0 F0 (.assign x) ty m H v := fun o a w h1 h2 ha hh => by
  simp [execOp, h1, ha.eval hx]
theorem f_pick {b : Bool} (hc : ev m c = some (.bool b)) (hx : ev m x = some vx) (hy : ev m y = some vy) : Flt P n w0 F0 (.pick c x y) ty m H (if b then vx else vy) :=
  fun o a w h1 h2 ha hh => by
    cases b <;> simp [execOp, h1, ha.eval hx, ha.eval hy, ha.eval hc, asBool]
theorem f_pick1 (hc : ev m c = some (.bool true)) (hx : ev m x = some vx) : Flt P n w0 F0 (.pick c x y) ty m H vx :=
  fun o a w h1 h2 ha hh => by simp [execOp, h1, ha.eval hx, ha.eval hc, asBool]
theorem f_pick0 (hc : ev m c = some (.bool false)) (hy : ev m y = some vy) : Flt P n w0 F0 (.pick c x y) ty m H vy :=
  fun o a w h1 h2 ha hh => by simp [execOp, h1, ha.eval hy, ha.eval hc, asBool]

/-! ### Two operands -/

theorem f_bin {op : BinOp} {xt yt : TypeId} (hx : ev m x = some vx) (hy : ev m y = some vy) (hg : ∀ w, (eqGuard op xt x y vx vy).run P w = .ok () w)
    (hb : ∀ w, (binOp op xt vx vy).run P w = .ok v w) : Flt P n w0 F0 (.binOp op xt x y yt) ty m H v := fun o a w h1 h2 ha hh => by
  simp only [execOp, h1, ha.eval hx, ha.eval hy, Sem.run_bind, hg, Result.andThen_ok, hb, Sem.run_pure]

theorem guard_int {op : BinOp} {xt : TypeId} (w : World) : (eqGuard op xt x y (.int k p) (.int k q)).run P w = .ok () w := by
  cases op <;> simp [eqGuard]
theorem guard_str {op : BinOp} {xt : TypeId} {s t : ByteArray} (w : World) : (eqGuard op xt x y (.string s) (.string t)).run P w = .ok () w := by
  cases op <;> simp [eqGuard]
theorem guard_bool {op : BinOp} {xt : TypeId} {s t : Bool} (w : World) : (eqGuard op xt x y (.bool s) (.bool t)).run P w = .ok () w := by
  cases op <;> simp [eqGuard]
theorem guard_ptr {op : BinOp} {xt : TypeId} {s t : Option Addr} (w : World) : (eqGuard op xt x y (.pointer s) (.pointer t)).run P w = .ok () w := by
  cases op <;> simp [eqGuard]

theorem f_int {op : BinOp} {xt yt : TypeId} (hx : ev m x = some (.int k p)) (hy : ev m y = some (.int k q)) (hb : ∀ w, (binOp op xt (.int k p) (.int k q)).run P w = .ok v w) :
    Flt P n w0 F0 (.binOp op xt x y yt) ty m H v := f_bin hx hy guard_int hb

variable {xt yt : TypeId}
-- sums that may wrap
theorem f_addw (hx : ev m x = some (.int k p)) (hy : ev m y = some (.int k q)) : Flt P n w0 F0 (.binOp .add xt x y yt) ty m H (.int k (k.wrap (p + q))) :=
  f_int hx hy fun w => by simp [binOp, Op.intArith]
theorem f_subw (hx : ev m x = some (.int k p)) (hy : ev m y = some (.int k q)) : Flt P n w0 F0 (.binOp .sub xt x y yt) ty m H (.int k (k.wrap (p - q))) :=
  f_int hx hy fun w => by simp [binOp, Op.intArith]
theorem f_mulw (hx : ev m x = some (.int k p)) (hy : ev m y = some (.int k q)) : Flt P n w0 F0 (.binOp .mul xt x y yt) ty m H (.int k (k.wrap (p * q))) :=
  f_int hx hy fun w => by simp [binOp, Op.intArith]
-- sums in range
theorem wrap_eq {k : IntKind} {x y : Int} (h : k.wrap x = y) : Value.int k (k.wrap x) = .int k y := by rw [h]
theorem f_addr (hx : ev m x = some (.int k p)) (hy : ev m y = some (.int k q)) (hr : k.wrap (p + q) = r) : Flt P n w0 F0 (.binOp .add xt x y yt) ty m H (.int k r) := hr ▸ f_addw hx hy
theorem f_subr (hx : ev m x = some (.int k p)) (hy : ev m y = some (.int k q)) (hr : k.wrap (p - q) = r) : Flt P n w0 F0 (.binOp .sub xt x y yt) ty m H (.int k r) := hr ▸ f_subw hx hy
theorem f_mulr (hx : ev m x = some (.int k p)) (hy : ev m y = some (.int k q)) (hr : k.wrap (p * q) = r) : Flt P n w0 F0 (.binOp .mul xt x y yt) ty m H (.int k r) := hr ▸ f_mulw hx hy
theorem f_add (hx : ev m x = some (.int .i64 p)) (hy : ev m y = some (.int .i64 q)) (hb : -9223372036854775808 ≤ p + q ∧ p + q ≤ 9223372036854775807) :
    Flt P n w0 F0 (.binOp .add xt x y yt) ty m H (.int .i64 (p + q)) := f_addr hx hy (IntWalk.i64_in _ hb)
theorem f_sub (hx : ev m x = some (.int .i64 p)) (hy : ev m y = some (.int .i64 q)) (hb : -9223372036854775808 ≤ p - q ∧ p - q ≤ 9223372036854775807) :
    Flt P n w0 F0 (.binOp .sub xt x y yt) ty m H (.int .i64 (p - q)) := f_subr hx hy (IntWalk.i64_in _ hb)
theorem f_mul (hx : ev m x = some (.int .i64 p)) (hy : ev m y = some (.int .i64 q)) (hb : -9223372036854775808 ≤ p * q ∧ p * q ≤ 9223372036854775807) :
    Flt P n w0 F0 (.binOp .mul xt x y yt) ty m H (.int .i64 (p * q)) := f_mulr hx hy (IntWalk.i64_in _ hb)
theorem f_addu (hx : ev m x = some (.int .u64 p)) (hy : ev m y = some (.int .u64 q)) (hb : 0 ≤ p + q ∧ p + q ≤ 18446744073709551615) :
    Flt P n w0 F0 (.binOp .add xt x y yt) ty m H (.int .u64 (p + q)) := f_addr hx hy (IntWalk.u64_in _ hb)
theorem f_subu (hx : ev m x = some (.int .u64 p)) (hy : ev m y = some (.int .u64 q)) (hb : 0 ≤ p - q ∧ p - q ≤ 18446744073709551615) :
    Flt P n w0 F0 (.binOp .sub xt x y yt) ty m H (.int .u64 (p - q)) := f_subr hx hy (IntWalk.u64_in _ hb)
theorem f_mulu (hx : ev m x = some (.int .u64 p)) (hy : ev m y = some (.int .u64 q)) (hb : 0 ≤ p * q ∧ p * q ≤ 18446744073709551615) :
    Flt P n w0 F0 (.binOp .mul xt x y yt) ty m H (.int .u64 (p * q)) := f_mulr hx hy (IntWalk.u64_in _ hb)
theorem f_quow (hx : ev m x = some (.int k p)) (hy : ev m y = some (.int k q)) (hq : q ≠ 0) (hr : k.wrap (p.tdiv q) = r) : Flt P n w0 F0 (.binOp .quo xt x y yt) ty m H (.int k r) :=
  f_int hx hy fun w => by simp [binOp, Op.intDiv, hq, hr]
theorem f_remw (hx : ev m x = some (.int k p)) (hy : ev m y = some (.int k q)) (hq : q ≠ 0) (hr : p.tmod q = r) : Flt P n w0 F0 (.binOp .rem xt x y yt) ty m H (.int k r) :=
  f_int hx hy fun w => by simp [binOp, Op.intDiv, hq, hr]
theorem f_quou (hx : ev m x = some (.int .u64 p)) (hy : ev m y = some (.int .u64 q)) (h0 : 0 ≤ p ∧ p ≤ 18446744073709551615 ∧ 1 ≤ q) : Flt P n w0 F0 (.binOp .quo xt x y yt) ty m H (.int .u64 (p / q)) :=
  f_quow hx hy (by omega) (IntWalk.u64_quo _ _ h0)
theorem f_quo (hx : ev m x = some (.int .i64 p)) (hy : ev m y = some (.int .i64 q)) (h0 : 0 ≤ p ∧ p ≤ 9223372036854775807 ∧ 1 ≤ q) : Flt P n w0 F0 (.binOp .quo xt x y yt) ty m H (.int .i64 (p / q)) :=
  f_quow hx hy (by omega) (IntWalk.i64_quo _ _ h0)
theorem f_rem (hx : ev m x = some (.int k p)) (hy : ev m y = some (.int k q)) (h0 : 0 ≤ p ∧ 1 ≤ q) : Flt P n w0 F0 (.binOp .rem xt x y yt) ty m H (.int k (p % q)) :=
  f_remw hx hy (by omega) (IntWalk.rem_in _ _ h0.1)
-- bits
theorem f_and (hx : ev m x = some (.int k p)) (hy : ev m y = some (.int k q)) (hr : bits .and k p q = r) : Flt P n w0 F0 (.binOp .and xt x y yt) ty m H (.int k r) :=
  f_int hx hy fun w => by subst hr; simp [binOp, Op.intBits, bits]
theorem f_or (hx : ev m x = some (.int k p)) (hy : ev m y = some (.int k q)) (hr : bits .or k p q = r) : Flt P n w0 F0 (.binOp .or xt x y yt) ty m H (.int k r) :=
  f_int hx hy fun w => by subst hr; simp [binOp, Op.intBits, bits]
theorem f_xor (hx : ev m x = some (.int k p)) (hy : ev m y = some (.int k q)) (hr : bits .xor k p q = r) : Flt P n w0 F0 (.binOp .xor xt x y yt) ty m H (.int k r) :=
  f_int hx hy fun w => by subst hr; simp [binOp, Op.intBits, bits]
theorem f_andNot (hx : ev m x = some (.int k p)) (hy : ev m y = some (.int k q)) (hr : bits .andNot k p q = r) : Flt P n w0 F0 (.binOp .andNot xt x y yt) ty m H (.int k r) :=
  f_int hx hy fun w => by subst hr; simp [binOp, Op.intBits, bits]
theorem f_shl {k' : IntKind} (hx : ev m x = some (.int k p)) (hy : ev m y = some (.int k' q)) (hq : 0 ≤ q) (hr : k.wrap (p * 2 ^ min q.toNat k.bits) = r) : Flt P n w0 F0 (.binOp .shl xt x y yt) ty m H (.int k r) :=
  f_bin hx hy (fun w => by simp [eqGuard]) fun w => by simp [binOp, Op.shift, Int.not_lt.2 hq, hr]
theorem f_shr {k' : IntKind} (hx : ev m x = some (.int k p)) (hy : ev m y = some (.int k' q)) (hq : 0 ≤ q) (hr : p.fdiv (2 ^ min q.toNat k.bits) = r) : Flt P n w0 F0 (.binOp .shr xt x y yt) ty m H (.int k r) :=
  f_bin hx hy (fun w => by simp [eqGuard]) fun w => by simp [binOp, Op.shift, Int.not_lt.2 hq, hr]
-- comparisons of integers
theorem f_lss (hx : ev m x = some (.int k p)) (hy : ev m y = some (.int k q)) : Flt P n w0 F0 (.binOp .lss xt x y yt) ty m H (.bool (decide (p < q))) :=
  f_int hx hy fun w => by simp [binOp, Op.intCmp]
theorem f_leq (hx : ev m x = some (.int k p)) (hy : ev m y = some (.int k q)) : Flt P n w0 F0 (.binOp .leq xt x y yt) ty m H (.bool (decide (p ≤ q))) :=
  f_int hx hy fun w => by simp [binOp, Op.intCmp]
theorem f_gtr (hx : ev m x = some (.int k p)) (hy : ev m y = some (.int k q)) : Flt P n w0 F0 (.binOp .gtr xt x y yt) ty m H (.bool (decide (q < p))) :=
  f_int hx hy fun w => by simp [binOp, Op.intCmp]
theorem f_geq (hx : ev m x = some (.int k p)) (hy : ev m y = some (.int k q)) : Flt P n w0 F0 (.binOp .geq xt x y yt) ty m H (.bool (decide (q ≤ p))) :=
  f_int hx hy fun w => by simp [binOp, Op.intCmp]
theorem f_eql (hx : ev m x = some (.int k p)) (hy : ev m y = some (.int k q)) : Flt P n w0 F0 (.binOp .eql xt x y yt) ty m H (.bool (decide (p = q))) :=
  f_int hx hy fun w => by simp only [binOp, Op.intCmp, ne_eq, not_true, if_false, Sem.run_pure]; congr 2
theorem f_neq (hx : ev m x = some (.int k p)) (hy : ev m y = some (.int k q)) : Flt P n w0 F0 (.binOp .neq xt x y yt) ty m H (.bool (decide (p ≠ q))) :=
  f_int hx hy fun w => by
    have : (p != q) = decide (p ≠ q) := by by_cases h : p = q <;> simp [h]
    simp [binOp, Op.intCmp, this]
-- strings
variable {s t : ByteArray}
theorem toList_inj {s t : ByteArray} : s.toList = t.toList ↔ s = t := by
  rw [ByteArray.toList_eq, ByteArray.toList_eq]
  constructor
  · intro h; cases s; cases t; simp only [ByteArray.mk.injEq]; exact Array.ext' h
  · rintro rfl; rfl
theorem f_eqv {op : Op} {v v' : Value} (h : Flt P n w0 F0 op ty m H v) (e : v = v') : Flt P n w0 F0 op ty m H v' := e ▸ h
theorem f_eqls (hx : ev m x = some (.string s)) (hy : ev m y = some (.string t)) : Flt P n w0 F0 (.binOp .eql xt x y yt) ty m H (.bool (decide (s = t))) :=
  f_bin hx hy guard_str fun w => by
    have : (s.toList == t.toList) = decide (s = t) := by by_cases h : s = t <;> simp [h, toList_inj]
    simp [binOp, Op.stringOp, this]
theorem f_neqs (hx : ev m x = some (.string s)) (hy : ev m y = some (.string t)) : Flt P n w0 F0 (.binOp .neq xt x y yt) ty m H (.bool (decide (s ≠ t))) :=
  f_bin hx hy guard_str fun w => by
    have : (s.toList == t.toList) = decide (s = t) := by by_cases h : s = t <;> simp [h, toList_inj]
    simp [binOp, Op.stringOp, this]
theorem f_lsss (hx : ev m x = some (.string s)) (hy : ev m y = some (.string t)) : Flt P n w0 F0 (.binOp .lss xt x y yt) ty m H (.bool (Op.bytesLess s.data.toList t.data.toList)) :=
  f_bin hx hy guard_str fun w => by simp [binOp, Op.stringOp, ByteArray.toList_eq]
theorem f_adds (hx : ev m x = some (.string s)) (hy : ev m y = some (.string t)) (hb : s.size + t.size ≤ 9223372036854775807) : Flt P n w0 F0 (.binOp .add xt x y yt) ty m H (.string (s ++ t)) :=
  f_bin hx hy guard_str fun w => by
    have h : ¬ (((s.size + t.size : Nat) : Int) > IntKind.i64.max) := by
      have e : IntKind.i64.max = 9223372036854775807 := by decide
      rw [e]; omega
    simp only [binOp, Op.stringOp, if_neg h, Sem.run_pure]
-- slices against nil
theorem eq_slnil (w : World) (d : Nat) (t e : TypeId) (a : Option Addr) (l c : Nat) (h : P.underlying t = some (.slice e)) : (Op.equalIn (d + 1) t (.slice a l c) (.slice .none 0 0)).run P w = .ok a.isNone w := by
  cases a <;> simp [Op.equalIn, run_underlying h]
theorem f_eqlslnil {a : Option Addr} {l c : Nat} (hx : ev m x = some (.slice a l c)) (hy : ev m y = some (.slice .none 0 0)) {pe : TypeId} (ht : P.underlying xt = some (.slice pe)) :
    Flt P n w0 F0 (.binOp .eql xt x y yt) ty m H (.bool a.isNone) := f_bin hx hy (fun w => by simp [eqGuard]) fun w => by
  have h' : (Op.equal xt (.slice a l c) (.slice .none 0 0)).run P w = .ok a.isNone w := eq_slnil w 9999 xt pe a l c ht
  simp [binOp, h']
-- pointers against nil
theorem f_eqlnil {a : Option Addr} (hx : ev m x = some (.pointer a)) (hy : ev m y = some (.pointer .none)) {pe : TypeId} (ht : P.underlying xt = some (.pointer pe)) :
    Flt P n w0 F0 (.binOp .eql xt x y yt) ty m H (.bool a.isNone) := f_bin hx hy guard_ptr fun w => by
  rw [run_eql_pointer_nil (P := P) w xt a (by simp [Program.pointee, ht])]
theorem f_neqnil {a : Option Addr} (hx : ev m x = some (.pointer a)) (hy : ev m y = some (.pointer .none)) {pe : TypeId} (ht : P.underlying xt = some (.pointer pe)) :
    Flt P n w0 F0 (.binOp .neq xt x y yt) ty m H (.bool a.isSome) := f_bin hx hy guard_ptr fun w => by
  rw [run_neq_pointer_nil (P := P) w xt a (by simp [Program.pointee, ht])]; cases a <;> rfl
theorem f_not {b : Bool} {op : UnOp} (ho : op = .not) (hx : ev m x = some (.bool b)) : Flt P n w0 F0 (.unOp op xt x) ty m H (.bool !b) := fun o a w h1 h2 ha hh => by
  subst ho; simp [execOp, h1, ha.eval hx, Op.unary]
theorem f_neg {op : UnOp} (ho : op = .neg) (hx : ev m x = some (.int k p)) (hr : k.wrap (0 - p) = r) : Flt P n w0 F0 (.unOp op xt x) ty m H (.int k r) := fun o a w h1 h2 ha hh => by
  subst ho; subst hr; simp [execOp, h1, ha.eval hx, Op.unary, Op.intArith]
-- conversions between integers
theorem f_convw {k' : IntKind} {src dst : TypeId} {ds : TypeDesc} (hx : ev m x = some (.int k p)) (hs : P.underlying src = some ds) (hd : P.underlying dst = some (.int k')) (hr : k'.wrap p = r) :
    Flt P n w0 F0 (.convert src dst x) ty m H (.int k' r) := fun o a w h1 h2 ha hh => by
  subst hr; simp [execOp, h1, ha.eval hx, convert, run_underlying hs, run_underlying hd, Conv.intToInt]
theorem f_convi {src dst : TypeId} {ds : TypeDesc} (hx : ev m x = some (.int k p)) (hs : P.underlying src = some ds) (hd : P.underlying dst = some (.int .i64)) (hb : -9223372036854775808 ≤ p ∧ p ≤ 9223372036854775807) :
    Flt P n w0 F0 (.convert src dst x) ty m H (.int .i64 p) := f_convw hx hs hd (IntWalk.i64_in _ hb)
theorem f_convu {src dst : TypeId} {ds : TypeDesc} (hx : ev m x = some (.int k p)) (hs : P.underlying src = some ds) (hd : P.underlying dst = some (.int .u64)) (hb : 0 ≤ p ∧ p ≤ 18446744073709551615) :
    Flt P n w0 F0 (.convert src dst x) ty m H (.int .u64 p) := f_convw hx hs hd (IntWalk.u64_in _ hb)
theorem f_convb {src dst : TypeId} {ds : TypeDesc} (hx : ev m x = some (.int k p)) (hs : P.underlying src = some ds) (hd : P.underlying dst = some (.int .u8)) (hb : 0 ≤ p ∧ p ≤ 255) :
    Flt P n w0 F0 (.convert src dst x) ty m H (.int .u8 p) := f_convw hx hs hd (IntWalk.u8_in _ hb)
-- strings to a string type
theorem f_convs {src dst : TypeId} (hx : ev m x = some (.string s)) (hs : P.underlying src = some .string) (hd : P.underlying dst = some .string) :
    Flt P n w0 F0 (.convert src dst x) ty m H (.string s) := fun o a w h1 h2 ha hh => by
  simp [execOp, h1, ha.eval hx, convert, run_underlying hs, run_underlying hd]

/-! ### len, index, slices of strings -/

theorem f_len {t : TypeId} {e : TypeId} {a0 : Option Addr} {len cap : Nat} (hx : ev m x = some (.slice a0 len cap)) (ht : P.underlying t = some (.slice e)) :
    Flt P n w0 F0 (.call { callee := .builtin .len, args := #[x], argTypes := #[t] }) ty m H (.int .i64 len) := fun o a w h1 h2 ha hh => by
  simp [execOp, h1, resolve, invoke, builtin, ha.eval hx, Builtin.len_, run_underlying ht, goInt]
theorem f_lens {t : TypeId} (hx : ev m x = some (.string s)) (ht : P.underlying t = some .string) :
    Flt P n w0 F0 (.call { callee := .builtin .len, args := #[x], argTypes := #[t] }) ty m H (.int .i64 s.size) := fun o a w h1 h2 ha hh => by
  simp [execOp, h1, resolve, invoke, builtin, ha.eval hx, Builtin.len_, run_underlying ht, goInt]
theorem f_min {ts : Array TypeId} (hx : ev m x = some (.int k p)) (hy : ev m y = some (.int k q)) (hr : (if q < p then q else p) = r) :
    Flt P n w0 F0 (.call { callee := .builtin .min, args := #[x, y], argTypes := ts }) ty m H (.int k r) := fun o a w h1 h2 ha hh => by
  subst hr; simp [execOp, h1, resolve, invoke, builtin, ha.eval hx, ha.eval hy, run_min_int2]
theorem f_max {ts : Array TypeId} (hx : ev m x = some (.int k p)) (hy : ev m y = some (.int k q)) (hr : (if q > p then q else p) = r) :
    Flt P n w0 F0 (.call { callee := .builtin .max, args := #[x, y], argTypes := ts }) ty m H (.int k r) := fun o a w h1 h2 ha hh => by
  subst hr; simp [execOp, h1, resolve, invoke, builtin, ha.eval hx, ha.eval hy, run_max_int2]
theorem f_indexs {b : UInt8} {i : Nat} (hx : ev m x = some (.string s)) (hy : ev m y = some (.int k p)) (ht : P.underlying xt = some .string) (hi : p = (i : Nat)) (hb : s.data[i]? = some b) :
    Flt P n w0 F0 (.index xt x y) ty m H (.int .u8 b.toNat) := fun o a w h1 h2 ha hh => by
  subst hi
  have hb' : s[i]? = some b := by
    have hlt : i < s.size := (Array.getElem?_eq_some_iff.1 hb).1
    rw [ByteArray.getElem?_lt' s i hlt]
    have := (Array.getElem?_eq_some_iff.1 hb).2
    exact congrArg some this
  simp [execOp, h1, ha.eval hx, ha.eval hy, Instr.index, asIntOf, run_underlying ht, hb']
theorem f_slices {lo hi : Option Operand} {l u : Nat} (hx : ev m x = some (.string s)) (ht : P.underlying xt = some .string)
    (hl : match lo with | .none => l = 0 | some z => ∃ k, ev m z = some (.int k (l : Nat)))
    (hu : match hi with | .none => u = s.size | some z => ∃ k, ev m z = some (.int k (u : Nat))) (hlu : l ≤ u) (hus : u ≤ s.size) :
    Flt P n w0 F0 (.slice xt x lo hi .none) ty m H (.string (s.extract l u)) := fun o a w h1 h2 ha hh => by
  have e1 : ¬ (u : Int) < (l : Int) := by omega
  cases lo with
  | none =>
    subst hl
    cases hi with
    | none => subst hu; simp [execOp, h1, ha.eval hx, Instr.sliceAt, run_underlying ht, Instr.slice, Instr.sliceBounds]
    | some z =>
      obtain ⟨k, hz⟩ := hu
      simp [execOp, h1, ha.eval hx, ha.eval hz, Instr.sliceAt, run_underlying ht, Instr.slice, Instr.sliceBounds, Instr.sliceBound, asIntOf, hus]
  | some z =>
    obtain ⟨k, hz⟩ := hl
    cases hi with
    | none => subst hu; simp [execOp, h1, ha.eval hx, ha.eval hz, Instr.sliceAt, run_underlying ht, Instr.slice, Instr.sliceBounds, Instr.sliceBound, asIntOf, hlu]
    | some z' =>
      obtain ⟨k', hz'⟩ := hu
      simp [execOp, h1, ha.eval hx, ha.eval hz, ha.eval hz', Instr.sliceAt, run_underlying ht, Instr.slice, Instr.sliceBounds, Instr.sliceBound, asIntOf, hlu, hus]

/-! ### Addresses, parts of values -/

theorem f_nilCheck {a0 : Addr} (hx : ev m x = some (.pointer (some a0))) : Flt P n w0 F0 (.nilCheck x) ty m H (.pointer (some a0)) := fun o a w h1 h2 ha hh => by
  simp [execOp, h1, ha.eval hx]
theorem f_fieldAddr (o' : Nat) {fs : Array Field} {f : Field} {i b off : Nat} (hx : ev m x = some (.pointer (some ⟨b, off, .none⟩))) (ht : P.underlying xt = some (.struct fs)) (hf : fs[i]? = some f) (hof : f.offset = o')
    (hz : (match P.info? f.type with | some i => Nat.beq i.size 0 | .none => true) = false) :
    Flt P n w0 F0 (.fieldAddr xt x i) ty m H (.pointer (some ⟨b, off + o', .none⟩)) := fun o a w h1 h2 ha hh => by
  subst hof
  have ⟨j, hj⟩ : ∃ j, P.info? f.type = some j := by
    cases h : P.info? f.type with
    | none => rw [h] at hz; cases hz
    | some j => exact ⟨j, rfl⟩
  have hz' : j.size ≠ 0 := by
    rw [hj] at hz
    intro h0
    simp [h0] at hz
  have hadd : (⟨b, off, .none⟩ : Addr).add f.offset = ⟨b, off + f.offset, .none⟩ := by
    unfold Addr.add; split <;> simp_all
  simp [execOp, h1, ha.eval hx, Instr.fieldAt, run_underlying ht, hf, Instr.sureAddr, fieldPlace, sizeOf, typeInfo, hj, hz', hadd]
theorem f_indexAddr (sz : Nat) {e i b off len cap : Nat} (hx : ev m x = some (.slice (some ⟨b, off, .none⟩) len cap)) (hy : ev m y = some (.int k p)) (ht : P.underlying xt = some (.slice e))
    (hs : (P.info? e).map (·.size) = some sz) (hi : p = (i : Nat)) (hlt : i < len) :
    Flt P n w0 F0 (.indexAddr xt x y) ty m H (.pointer (some ⟨b, off + i * sz, .none⟩)) := fun o a w h1 h2 ha hh => by
  subst hi
  obtain ⟨j, hj, hjs⟩ := Option.map_eq_some_iff.1 hs
  have hadd : (⟨b, off, .none⟩ : Addr).add (i * sz) = ⟨b, off + i * sz, .none⟩ := by
    unfold Addr.add; split <;> simp_all
  simp [execOp, h1, ha.eval hx, ha.eval hy, Instr.indexAt, asIntOf, run_underlying ht, hlt, sizeOf, typeInfo, hj, hjs, hadd]
/-- A slice of a slice. -/
theorem f_slice (sz : Nat) {e l u b off len cap : Nat} {lo hi : Option Operand} (hx : ev m x = some (.slice (some ⟨b, off, .none⟩) len cap)) (ht : P.underlying xt = some (.slice e))
    (hs : (P.info? e).map (·.size) = some sz)
    (hl : match lo with | .none => l = 0 | some z => ∃ k, ev m z = some (.int k (l : Nat)))
    (hu : match hi with | .none => u = len | some z => ∃ k, ev m z = some (.int k (u : Nat))) (hlu : l ≤ u) (hus : u ≤ cap) :
    Flt P n w0 F0 (.slice xt x lo hi .none) ty m H (.slice (some ⟨b, if cap = l then off else off + l * sz, .none⟩) (u - l) (cap - l)) := fun o a w h1 h2 ha hh => by
  obtain ⟨j, hj, hjs⟩ := Option.map_eq_some_iff.1 hs
  have hadd : ∀ z, (⟨b, off, .none⟩ : Addr).add z = ⟨b, off + z, .none⟩ := fun z => by
    unfold Addr.add; split <;> simp_all
  have key : (if cap = l then (some ⟨b, off, .none⟩ : Option Addr) else some ⟨b, off + l * sz, .none⟩) = some ⟨b, if cap = l then off else off + l * sz, .none⟩ := by split <;> rfl
  cases lo with
  | none =>
    subst hl
    cases hi with
    | none => subst hu; simp [execOp, h1, ha.eval hx, Instr.sliceAt, run_underlying ht, Instr.slice, Instr.sliceBounds, sizeOf, typeInfo, hj, hadd]
    | some z =>
      obtain ⟨k, hz⟩ := hu
      simp [execOp, h1, ha.eval hx, ha.eval hz, Instr.sliceAt, run_underlying ht, Instr.slice, Instr.sliceBounds, Instr.sliceBound, asIntOf, hus, sizeOf, typeInfo, hj, hadd]
  | some z =>
    obtain ⟨k, hz⟩ := hl
    cases hi with
    | none =>
      subst hu
      have e := key
      simp [execOp, h1, ha.eval hx, ha.eval hz, Instr.sliceAt, run_underlying ht, Instr.slice, Instr.sliceBounds, Instr.sliceBound, asIntOf, hlu, sizeOf, typeInfo, hj, hjs, hadd, e]
    | some z' =>
      obtain ⟨k', hz'⟩ := hu
      have e := key
      simp [execOp, h1, ha.eval hx, ha.eval hz, ha.eval hz', Instr.sliceAt, run_underlying ht, Instr.slice, Instr.sliceBounds, Instr.sliceBound, asIntOf, hlu, hus, sizeOf, typeInfo, hj, hjs, hadd, e]
/-- A slice of a slice, nil or not. -/
theorem f_sliceA (sz : Nat) {A : Option Addr} {e l u len cap : Nat} {lo hi : Option Operand} (hx : ev m x = some (.slice A len cap)) (ht : P.underlying xt = some (.slice e))
    (hs : (P.info? e).map (·.size) = some sz)
    (hl : match lo with | .none => l = 0 | some z => ∃ k, ev m z = some (.int k (l : Nat)))
    (hu : match hi with | .none => u = len | some z => ∃ k, ev m z = some (.int k (u : Nat))) (hlu : l ≤ u) (hus : u ≤ cap) :
    Flt P n w0 F0 (.slice xt x lo hi .none) ty m H (.slice (if cap = l then A else A.map (·.add (l * sz))) (u - l) (cap - l)) := fun o a w h1 h2 ha hh => by
  obtain ⟨j, hj, hjs⟩ := Option.map_eq_some_iff.1 hs
  subst hjs
  cases lo with
  | none =>
    subst hl
    cases hi with
    | none => subst hu; simp [execOp, h1, ha.eval hx, Instr.sliceAt, run_underlying ht, Instr.slice, Instr.sliceBounds, sizeOf, typeInfo, hj]
    | some z =>
      obtain ⟨k, hz⟩ := hu
      simp [execOp, h1, ha.eval hx, ha.eval hz, Instr.sliceAt, run_underlying ht, Instr.slice, Instr.sliceBounds, Instr.sliceBound, asIntOf, hus, sizeOf, typeInfo, hj]
  | some z =>
    obtain ⟨k, hz⟩ := hl
    cases hi with
    | none =>
      subst hu
      simp [execOp, h1, ha.eval hx, ha.eval hz, Instr.sliceAt, run_underlying ht, Instr.slice, Instr.sliceBounds, Instr.sliceBound, asIntOf, hlu, sizeOf, typeInfo, hj]
    | some z' =>
      obtain ⟨k', hz'⟩ := hu
      simp [execOp, h1, ha.eval hx, ha.eval hz, ha.eval hz', Instr.sliceAt, run_underlying ht, Instr.slice, Instr.sliceBounds, Instr.sliceBound, asIntOf, hlu, hus, sizeOf, typeInfo, hj]
theorem f_extract {vs : List Value} {i : Nat} (hx : ev m x = some (.tuple vs.toArray)) (hi : vs[i]? = some v) : Flt P n w0 F0 (.extract x i) ty m H v := fun o a w h1 h2 ha hh => by
  simp [execOp, h1, ha.eval hx, Instr.extract, hi]
/-- A field of a struct's value: one cell. -/
theorem f_field {fs : Array Field} {f : Field} {i : Nat} {cs : List Value} {d : TypeDesc} (hx : ev m x = some (.agg cs.toArray)) (ht : P.underlying xt = some (.struct fs)) (hf : fs[i]? = some f)
    (hd : P.underlying f.type = some d) (hagg : (match d with | .struct _ | .array _ _ => false | _ => true) = true) (hv : cs[f.offset]? = some v) :
    Flt P n w0 F0 (.field xt x i) ty m H v := fun o a w h1 h2 ha hh => by
  have : (isAgg f.type).run P w = .ok false w := by
    cases d <;> simp_all [isAgg, run_underlying hd]
  simp [execOp, h1, ha.eval hx, Instr.field, run_underlying ht, hf, asAgg, part, this, hv]
theorem f_build {t : TypeId} {parts : List (Nat × Operand)} {us : List (Nat × Value)} (hp : evps m parts = some us)
    (hb : ∀ w, (Instr.build t us.toArray).run P w = .ok v w) : Flt P n w0 F0 (.build t parts.toArray) ty m H v := fun o a w h1 h2 ha hh => by
  have e : (parts.toArray.map fun (i, x) => (i, a.eval x)) = us.toArray := by
    apply Array.ext'; simpa using ha.evparts _ hp
  simp only [execOp, h1, e, Sem.run_bind, hb, Result.andThen_ok, Sem.run_pure]
theorem f_makeFunc {fn : Fn} {first captured : Array Operand} {fs cs : List Value} (h1' : evs m first.toList = some fs) (h2' : evs m captured.toList = some cs) :
    Flt P n w0 F0 (.makeFunc fn first captured) ty m H (.func fn fs.toArray cs.toArray) := fun o a w h1 h2 ha hh => by
  have e1 : first.map a.eval = fs.toArray := by
    have := ha.evals _ h1'
    apply Array.ext'; simpa using this
  have e2 : captured.map a.eval = cs.toArray := by
    have := ha.evals _ h2'
    apply Array.ext'; simpa using this
  simp [execOp, h1, Instr.makeFunc, e1, e2]
end
end Go.Proofs.YtmagdjlcckgkpaaGreat
