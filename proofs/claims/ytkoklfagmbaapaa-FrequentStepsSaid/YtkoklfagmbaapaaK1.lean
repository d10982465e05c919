/- A small proof kit: frames as association lists, the heap as a list of resources, one rule a form of code. -/
import Derived.WalkKit
import Derived.WalkSpells
import Derived.WalkLawsBesides
import Derived.Laws.OwnMore
import Derived.Maps.AppendAt
import Derived.Lib.AppendStr
import Derived.OrdersHeld
import Derived.Deep.LoopGhost
import Derived.KernelRfl
namespace Go.Proofs.Ytkoklfagmbaapaa
open Go.RowKit

/-! ### Frames -/

abbrev Env := List (Nat × Value)

def lk : Env → Nat → Option Value
  | [], _ => .none
  | (k, v) :: r, t => bif Nat.beq k t then some v else lk r t

def ev (m : Env) : Operand → Option Value
  | .tmp t => lk m t
  | .const v => some v
  | .global g => some (.pointer (some ⟨g, 0, .none⟩))
  | .func f => some (.func (.func f) #[] #[])

def evs (m : Env) : List Operand → Option (List Value)
  | [] => some []
  | x :: r => match ev m x, evs m r with
    | some v, some vs => some (v :: vs)
    | _, _ => .none

/-- The parts of a literal. -/
def evps (m : Env) : List (Nat × Operand) → Option (List (Nat × Value))
  | [] => some []
  | (i, x) :: r => match ev m x, evps m r with
    | some v, some vs => some ((i, v) :: vs)
    | _, _ => .none

structure Fr (n : Nat) (m : Env) (a : Act) : Prop where
  size : a.tmps.size = n
  defers : a.defers = []
  get : ∀ t v, lk m t = some v → a.tmps[t]? = some v

theorem Fr.eval {n : Nat} {m : Env} {a : Act} (h : Fr n m a) {x : Operand} {v : Value} (he : ev m x = some v) : a.eval x = v := by
  cases x with
  | tmp t => have := h.get t v he; simp [Act.eval, this]
  | const u => simpa [ev, Act.eval] using he
  | global g => simpa [ev, Act.eval] using he
  | func f => simpa [ev, Act.eval] using he

theorem Fr.evals {n : Nat} {m : Env} {a : Act} (h : Fr n m a) : ∀ (xs : List Operand) {vs : List Value}, evs m xs = some vs → xs.map a.eval = vs
  | [], vs, he => by simpa [evs] using he
  | x :: r, vs, he => by
    simp only [evs] at he
    split at he
    · rename_i v us h1 h2
      simp only [Option.some.injEq] at he
      subst he
      simp [h.eval h1, h.evals r h2]
    · cases he

theorem Fr.evparts {n : Nat} {m : Env} {a : Act} (h : Fr n m a) : ∀ (xs : List (Nat × Operand)) {vs : List (Nat × Value)}, evps m xs = some vs → xs.map (fun (i, x) => (i, a.eval x)) = vs
  | [], vs, he => by simpa [evps] using he
  | (i, x) :: r, vs, he => by
    simp only [evps] at he
    split at he
    · rename_i v us h1 h2
      simp only [Option.some.injEq] at he
      subst he
      simp [h.eval h1, h.evparts r h2]
    · cases he

theorem Fr.put {n : Nat} {m : Env} {a : Act} (h : Fr n m a) {d : Nat} (hd : Nat.blt d n = true) (v : Value) : Fr n ((d, v) :: m) (a.put (some d) v) := by
  have hd' : d < n := by simpa [Nat.blt_eq] using hd
  refine ⟨by simpa [Act.put] using h.size, h.defers, fun t u hu => ?_⟩
  simp only [lk] at hu
  by_cases hk : d = t
  · subst hk
    simp only [Nat.beq_refl, cond_true, Option.some.injEq] at hu
    subst hu
    simp [Act.put, h.size, hd']
  · have : Nat.beq d t = false := by
      cases hb : Nat.beq d t with
      | false => rfl
      | true => exact absurd (Nat.eq_of_beq_eq_true hb) hk
    simp only [this, cond_false] at hu
    simp only [Act.put]
    rw [Array.getElem?_setIfInBounds_ne hk]
    exact h.get t u hu

theorem Fr.put_none {n : Nat} {m : Env} {a : Act} (h : Fr n m a) (v : Value) : Fr n m (a.put .none v) := h

/-- Every entry of the first is an entry of the second. -/
def Sub : Env → Env → Prop
  | [], _ => True
  | (k, v) :: r, m => lk m k = some v ∧ Sub r m

theorem Sub.lk : ∀ {m' m : Env}, Sub m' m → ∀ t v, lk m' t = some v → lk m t = some v
  | [], _, _, t, v, h => by simp [Proofs.Ytkoklfagmbaapaa.lk] at h
  | (k, u) :: r, m, hs, t, v, h => by
    simp only [Proofs.Ytkoklfagmbaapaa.lk] at h
    by_cases hk : k = t
    · subst hk
      simp only [Nat.beq_refl, cond_true, Option.some.injEq] at h
      subst h
      exact hs.1
    · have : Nat.beq k t = false := by
        cases hb : Nat.beq k t with
        | false => rfl
        | true => exact absurd (Nat.eq_of_beq_eq_true hb) hk
      simp only [this, cond_false] at h
      exact Sub.lk hs.2 t v h

/-- The entries are arguments. -/
def SubL : Env → List Value → Prop
  | [], _ => True
  | (k, v) :: r, l => l[k]? = some v ∧ SubL r l

theorem SubL.get : ∀ {m : Env} {l : List Value}, SubL m l → ∀ t v, lk m t = some v → l[t]? = some v
  | [], _, _, t, v, h => by simp [lk] at h
  | (k, u) :: r, l, hs, t, v, h => by
    simp only [lk] at h
    by_cases hk : k = t
    · subst hk
      simp only [Nat.beq_refl, cond_true, Option.some.injEq] at h
      subst h
      exact hs.1
    · have : Nat.beq k t = false := by
        cases hb : Nat.beq k t with
        | false => rfl
        | true => exact absurd (Nat.eq_of_beq_eq_true hb) hk
      simp only [this, cond_false] at h
      exact SubL.get hs.2 t v h

theorem Fr.sub {n : Nat} {m m' : Env} {a : Act} (h : Fr n m a) (hs : Sub m' m) : Fr n m' a :=
  ⟨h.size, h.defers, fun t v hv => h.get t v (hs.lk t v hv)⟩

/-! ### The world: what may have changed, and what is held -/

structure Frm (F : Nat → Prop) (w w' : World) : Prop where
  os : w'.os = w.os
  tape : w'.tape = w.tape
  output : w'.output = w.output
  size : w.heap.size ≤ w'.heap.size
  block : ∀ k, k < w.heap.size → ¬ F k → w'.heap[k]? = w.heap[k]?

/-- Nothing that was there may have changed. -/
def Nil : Nat → Prop := fun _ => False

theorem Frm.refl (F : Nat → Prop) (w : World) : Frm F w w := ⟨rfl, rfl, rfl, Nat.le_refl _, fun _ _ _ => rfl⟩
theorem Frm.trans {F G : Nat → Prop} {a b c : World} (h : Frm F a b) (k : Frm G b c) (hG : ∀ x, G x → x < a.heap.size → F x) : Frm F a c :=
  ⟨k.os.trans h.os, k.tape.trans h.tape, k.output.trans h.output, Nat.le_trans h.size k.size,
    fun i hi hn => (k.block i (Nat.lt_of_lt_of_le hi h.size) (fun hg => hn (hG i hg hi))).trans (h.block i hi hn)⟩
theorem Frm.mono {F G : Nat → Prop} {a b : World} (h : Frm F a b) (hG : ∀ x, F x → G x) : Frm G a b :=
  ⟨h.os, h.tape, h.output, h.size, fun i hi hn => h.block i hi fun hf => hn (hG i hf)⟩
theorem Frm.drew (F : Nat → Prop) (w : World) : Frm F w { w with drawn := w.drawn + 1 } := ⟨rfl, rfl, rfl, Nat.le_refl _, fun _ _ _ => rfl⟩
theorem Frm.alloc (F : Nat → Prop) (w : World) (o : Obj) : Frm F w (w.alloc o) :=
  ⟨rfl, rfl, rfl, by simp, fun k hk _ => heap_alloc_old w o hk⟩
theorem Frm.below {w w' : World} (h : Frm Nil w w') : Below w.heap.size w w' :=
  ⟨h.os, h.tape, h.output, h.size, fun k hk => h.block k hk id⟩

/-- A resource: blocks of its own, and what is said of them. -/
structure Res where
  foot : Nat → Prop
  ok : World → Prop
  loc : ∀ w w' : World, (∀ k, foot k → w'.heap[k]? = w.heap[k]?) → ok w → ok w'

/-- A block of which all cells are known. -/
def blk (b : Nat) (cs : List Value) (t : TypeId) : Res where
  foot := fun k => k = b
  ok := fun w => w.heap[b]? = some (.cells cs.toArray t (0, 0))
  loc := fun _ _ h hw => (h b rfl).trans hw

/-- A slice of the call's own: n elements of sz cells each, in a block of its own, or nil. -/
def row (v : Value) (e sz n : Nat) (xs : List Value) : Res where
  foot := fun k => v.ownBlock = some k
  ok := fun w => w.ownsRow 0 e sz v n xs
  loc := fun w w' h hw => by
    refine ⟨hw.1, ?_⟩
    rcases hw.2 with hn | ⟨g, cap, cur, rfl, hb, hg, rest⟩
    · exact .inl hn
    · exact .inr ⟨g, cap, cur, rfl, hb, (h g (by simp [Value.ownBlock])).trans hg, rest⟩

/-- The resources of a list are there, apart from each other; each block is new since w0 or among F0. -/
def Hs (w0 : World) (F0 : Nat → Prop) : List Res → World → Prop
  | [], _ => True
  | r :: H, w => (r.ok w ∧ (∀ k, r.foot k → k < w.heap.size ∧ (w0.heap.size ≤ k ∨ F0 k)) ∧ ∀ s ∈ H, ∀ k, r.foot k → ¬ s.foot k) ∧ Hs w0 F0 H w

def Holds (w0 : World) (F0 : Nat → Prop) (H : List Res) (w : World) : Prop := Frm F0 w0 w ∧ Hs w0 F0 H w

def feet (H : List Res) : Nat → Prop := fun k => ∃ r ∈ H, r.foot k

theorem Hs.mem {w0 w : World} {F0 : Nat → Prop} : ∀ {H : List Res}, Hs w0 F0 H w → ∀ r ∈ H, r.ok w ∧ ∀ k, r.foot k → k < w.heap.size ∧ (w0.heap.size ≤ k ∨ F0 k)
  | [], _, r, hr => by cases hr
  | s :: H, h, r, hr => by
    rcases List.mem_cons.1 hr with rfl | hr
    · exact ⟨h.1.1, h.1.2.1⟩
    · exact Hs.mem h.2 r hr

/-- The list is kept over whatever leaves its blocks alone. -/
theorem Hs.keep {w0 w w' : World} {F0 : Nat → Prop} : ∀ {H : List Res}, Hs w0 F0 H w → (∀ r ∈ H, ∀ k, r.foot k → w'.heap[k]? = w.heap[k]?) → w.heap.size ≤ w'.heap.size → Hs w0 F0 H w'
  | [], _, _, _ => trivial
  | s :: _, h, hk, hz => ⟨⟨s.loc w w' (hk s (List.mem_cons_self ..)) h.1.1, fun k hf => ⟨Nat.lt_of_lt_of_le (h.1.2.1 k hf).1 hz, (h.1.2.1 k hf).2⟩, h.1.2.2⟩,
      Hs.keep h.2 (fun r hr => hk r (List.mem_cons_of_mem _ hr)) hz⟩

theorem Hs.append {w0 w : World} {F0 : Nat → Prop} : ∀ {H H' : List Res}, Hs w0 F0 (H ++ H') w ↔ Hs w0 F0 H w ∧ Hs w0 F0 H' w ∧ ∀ r ∈ H, ∀ s ∈ H', ∀ k, r.foot k → ¬ s.foot k
  | [], H' => by simp [Hs]
  | r :: H, H' => by
    simp only [List.cons_append, Hs, Hs.append (H := H) (H' := H')]
    constructor
    · rintro ⟨⟨h1, h2, h3⟩, h4, h5, h6⟩
      refine ⟨⟨⟨h1, h2, fun s hs => h3 s (List.mem_append_left _ hs)⟩, h4⟩, h5, ?_⟩
      intro x hx s hs
      rcases List.mem_cons.1 hx with rfl | hx
      · exact h3 s (List.mem_append_right _ hs)
      · exact h6 x hx s hs
    · rintro ⟨⟨⟨h1, h2, h3⟩, h4⟩, h5, h6⟩
      refine ⟨⟨h1, h2, fun s hs => ?_⟩, h4, h5, fun x hx => h6 x (List.mem_cons_of_mem _ hx)⟩
      rcases List.mem_append.1 hs with hs | hs
      · exact h3 s hs
      · exact h6 r (List.mem_cons_self ..) s hs

/-- The order does not matter. -/
theorem Hs.perm {w0 w : World} {F0 : Nat → Prop} {H H' : List Res} (p : H.Perm H') : Hs w0 F0 H w → Hs w0 F0 H' w := by
  induction p with
  | nil => exact id
  | cons x p ih => exact fun h => ⟨⟨h.1.1, h.1.2.1, fun s hs => h.1.2.2 s (p.mem_iff.2 hs)⟩, ih h.2⟩
  | swap x y l =>
    rintro ⟨⟨h1, h2, h3⟩, ⟨h4, h5, h6⟩, h7⟩
    refine ⟨⟨h4, h5, fun s hs => ?_⟩, ⟨h1, h2, fun s hs => h3 s (List.mem_cons_of_mem _ hs)⟩, h7⟩
    rcases List.mem_cons.1 hs with rfl | hs
    · exact fun k hx hy => h3 x (List.mem_cons_self ..) k hy hx
    · exact h6 s hs
  | trans _ _ ih1 ih2 => exact fun h => ih2 (ih1 h)

theorem Holds.perm {w0 w : World} {F0 : Nat → Prop} {H H' : List Res} (h : Holds w0 F0 H w) (p : H.Perm H') : Holds w0 F0 H' w := ⟨h.1, h.2.perm p⟩

theorem Hs.drop_ {w0 w : World} {F0 : Nat → Prop} {H H' : List Res} (h : Hs w0 F0 H w) (hs : H'.Sublist H) : Hs w0 F0 H' w := by
  induction hs with
  | slnil => trivial
  | cons a _ ih => exact ih h.2
  | cons_cons a hsub ih => exact ⟨⟨h.1.1, h.1.2.1, fun s hs => h.1.2.2 s (hsub.subset hs)⟩, ih h.2⟩

theorem Holds.drop_ {w0 w : World} {F0 : Nat → Prop} {H H' : List Res} (h : Holds w0 F0 H w) (hs : H'.Sublist H) : Holds w0 F0 H' w := ⟨h.1, h.2.drop_ hs⟩

/-- Take out by place (each place counts in what is left). -/
def takeAt : Nat → List Res → Option (Res × List Res)
  | _, [] => .none
  | 0, r :: l => some (r, l)
  | i + 1, r :: l => match takeAt i l with
    | some (s, l') => some (s, r :: l')
    | .none => .none
def pick : List Nat → List Res → Option (List Res × List Res)
  | [], H => some ([], H)
  | i :: is, H => match takeAt i H with
    | some (r, H') => match pick is H' with
      | some (L, E) => some (r :: L, E)
      | .none => .none
    | .none => .none
theorem takeAt_perm : ∀ (i : Nat) (H : List Res) {r : Res} {H' : List Res}, takeAt i H = some (r, H') → H.Perm (r :: H')
  | _, [], _, _, h => by simp [takeAt] at h
  | 0, r :: l, _, _, h => by simp only [takeAt, Option.some.injEq, Prod.mk.injEq] at h; obtain ⟨rfl, rfl⟩ := h; exact List.Perm.refl _
  | i + 1, s :: l, r, H', h => by
    simp only [takeAt] at h
    split at h
    · rename_i r' l' hq
      simp only [Option.some.injEq, Prod.mk.injEq] at h
      obtain ⟨rfl, rfl⟩ := h
      exact ((takeAt_perm i l hq).cons s).trans (List.Perm.swap ..)
    · cases h
theorem pick_perm : ∀ (is : List Nat) (H : List Res) {L E : List Res}, pick is H = some (L, E) → H.Perm (L ++ E)
  | [], H, _, _, h => by simp only [pick, Option.some.injEq, Prod.mk.injEq] at h; obtain ⟨rfl, rfl⟩ := h; exact List.Perm.refl _
  | i :: is, H, L, E, h => by
    simp only [pick] at h
    split at h
    · rename_i r H' hq
      split at h
      · rename_i L' E' hq'
        simp only [Option.some.injEq, Prod.mk.injEq] at h
        obtain ⟨rfl, rfl⟩ := h
        exact (takeAt_perm i H hq).trans ((pick_perm is H' hq').cons r)
      · cases h
    · cases h
theorem Holds.pick {w0 w : World} {F0 : Nat → Prop} {H L E : List Res} (h : Holds w0 F0 H w) (hp : H.Perm (L ++ E)) : Holds w0 F0 L w := (h.perm hp).drop_ (List.sublist_append_left _ _)

theorem Holds.ok {w0 w : World} {F0 : Nat → Prop} {H : List Res} (h : Holds w0 F0 H w) {i : Nat} {r : Res} (hi : H[i]? = some r) : r.ok w :=
  (h.2.mem r (List.mem_of_getElem? hi)).1

/-- A new block. -/
theorem Holds.alloc {w0 w : World} {F0 : Nat → Prop} {H : List Res} (h : Holds w0 F0 H w) (cs : List Value) (t : TypeId) :
    Holds w0 F0 (blk w.heap.size cs t :: H) (w.alloc (.cells cs.toArray t)) := by
  refine ⟨h.1.trans (Frm.alloc (fun _ => False) w _) (fun _ hx => hx.elim), ⟨heap_alloc_new w _, ?_, ?_⟩, ?_⟩
  · rintro k rfl
    exact ⟨by simp, .inl h.1.size⟩
  · intro s hs k hk
    have := ((h.2.mem s hs).2 k)
    intro hf
    have h1 := (this hf).1
    simp only [blk] at hk
    omega
  · refine h.2.keep (fun r hr k hk => heap_alloc_old w _ ((h.2.mem r hr).2 k hk).1) (by simp)

/-- One resource changes into another over the same blocks; whatever else was there is left alone. -/
theorem Holds.change {w0 w w' : World} {F0 : Nat → Prop} {H1 H2 : List Res} {r r' : Res} (h : Holds w0 F0 (H1 ++ r :: H2) w)
    (hf : Frm r.foot w w') (hr : r'.ok w') (hfoot : ∀ k, r'.foot k → r.foot k ∨ (w.heap.size ≤ k ∧ k < w'.heap.size)) : Holds w0 F0 (H1 ++ r' :: H2) w' := by
  obtain ⟨h1, h2⟩ := h
  have hp := h2.perm (List.perm_middle (a := r) (l₁ := H1) (l₂ := H2))
  refine ⟨h1.trans hf (fun x hx hlt => ?_), Hs.perm (List.perm_middle (a := r') (l₁ := H1) (l₂ := H2)).symm ⟨⟨hr, ?_, ?_⟩, ?_⟩⟩
  · rcases (hp.1.2.1 x hx).2 with h | h
    · omega
    · exact h
  · intro k hk
    rcases hfoot k hk with h | h
    · exact ⟨Nat.lt_of_lt_of_le (hp.1.2.1 k h).1 hf.size, (hp.1.2.1 k h).2⟩
    · exact ⟨h.2, .inl (Nat.le_trans h1.size h.1)⟩
  · intro s hs k hk
    rcases hfoot k hk with h | h
    · exact hp.1.2.2 s hs k h
    · intro hsf
      have := ((hp.2.mem s hs).2 k hsf).1
      omega
  · refine hp.2.keep (fun s hs k hk => hf.block k ((hp.2.mem s hs).2 k hk).1 ?_) hf.size
    exact fun hx => hp.1.2.2 s hs k hx hk

/-- What a call of another function leaves: the consumed resources are replaced. -/
theorem Holds.call {w0 w w' : World} {F0 : Nat → Prop} {Hc Hf H1 : List Res} (h : Holds w0 F0 (Hc ++ Hf) w) (h' : Holds w (feet Hc) H1 w') : Holds w0 F0 (H1 ++ Hf) w' := by
  obtain ⟨h1, h2⟩ := h
  obtain ⟨hc, hf, hd⟩ := Hs.append.1 h2
  refine ⟨h1.trans h'.1 ?_, Hs.append.2 ⟨?_, ?_, ?_⟩⟩
  · rintro x ⟨r, hr, hx⟩ hlt
    rcases ((hc.mem r hr).2 x hx).2 with h | h
    · omega
    · exact h
  · have key : ∀ {L : List Res}, Hs w (feet Hc) L w' → Hs w0 F0 L w' := by
      intro L
      induction L with
      | nil => exact fun _ => trivial
      | cons r L ih =>
        rintro ⟨⟨a, b, c⟩, d⟩
        refine ⟨⟨a, fun k hk => ⟨(b k hk).1, ?_⟩, c⟩, ih d⟩
        rcases (b k hk).2 with h | ⟨s, hs, hks⟩
        · exact .inl (Nat.le_trans h1.size h)
        · exact ((hc.mem s hs).2 k hks).2
    exact key h'.2
  · refine hf.keep (fun s hs k hk => h'.1.block k ((hf.mem s hs).2 k hk).1 ?_) h'.1.size
    rintro ⟨r, hr, hx⟩
    exact hd r hr s hs k hx hk
  · intro r hr s hs k hk hsk
    rcases ((h'.2.mem r hr).2 k hk).2 with h | ⟨t, ht, hkt⟩
    · have := ((hf.mem s hs).2 k hsk).1
      omega
    · exact hd t ht s hs k hkt hsk

theorem Holds.start (w : World) (F : Nat → Prop) : Holds w F [] w := ⟨Frm.refl _ _, trivial⟩

/-- Old memory reads as it did. -/
theorem Holds.old {w0 w : World} {F0 : Nat → Prop} {H : List Res} (h : Holds w0 F0 H w) {a : Addr} {v : Value} (hc : w0.cell? a = some v) (hF : ¬ F0 a.block) : w.cell? a = some v := by
  have hlt := World.block_lt_of_cell? w0 a hc
  rw [World.cell?_of_block (h.1.block a.block hlt hF)]
  exact hc

/-! ### Specifications of functions -/

/-- The call returns; of what was there only F may have changed; it leaves the resources H1. -/
def Spec (P : Program) (f : FuncId) (args : List Value) (w : World) (F : Nat → Prop) (Φ : Value → List Res → Prop) : Prop :=
  Calls P f args.toArray w fun e w' => ∃ v H1, e = .returned v ∧ Holds w F H1 w' ∧ Φ v H1

theorem Spec.mono {P : Program} {f : FuncId} {args : List Value} {w : World} {F : Nat → Prop} {Φ Ψ : Value → List Res → Prop} (h : Spec P f args w F Φ)
    (hi : ∀ v H1, Φ v H1 → Ψ v H1) : Spec P f args w F Ψ :=
  Calls.mono h fun _ _ ⟨v, H1, he, hh, hp⟩ => ⟨v, H1, he, hh, hi v H1 hp⟩

/-! ### The rules of code -/

section
variable (P : Program) (n : Nat) (w0 : World) (F0 : Nat → Prop)

abbrev Cond := Env → List Res → World → Prop

def Post (N R : Cond) (X : Nat → Cond) : Exit → Act → World → Prop
  | .normal, a, w => ∃ m H, Fr n m a ∧ Holds w0 F0 H w ∧ N m H w
  | .ret, a, w => ∃ m H, Fr n m a ∧ Holds w0 F0 H w ∧ R m H w
  | .exit id, a, w => ∃ m H, Fr n m a ∧ Holds w0 F0 H w ∧ X id m H w
  | _, _, _ => False

def W (c : Code) (N R : Cond) (X : Nat → Cond) (m : Env) (H : List Res) (w : World) : Prop :=
  ∀ a, Fr n m a → Holds w0 F0 H w → c.wp P (Post n w0 F0 N R X) a w

def WL (ops : Array Oper) (N : Cond) (l : List Oper) (m : Env) (H : List Res) (w : World) : Prop :=
  ∀ a, Fr n m a → Holds w0 F0 H w → ∀ Q : Exit → Act → World → Prop,
    (∀ a' w', (∃ m' H', Fr n m' a' ∧ Holds w0 F0 H' w' ∧ N m' H' w') → Q .normal a' w') → wpList P ops Q l a w
end

section
variable {P : Program} {n : Nat} {w0 : World} {F0 : Nat → Prop} {N R : Cond} {X : Nat → Cond} {m : Env} {H : List Res} {w : World}

theorem W.mono {N' R' : Cond} {X' : Nat → Cond} {c : Code} (h : W P n w0 F0 c N R X m H w) (hN : ∀ m H w, N m H w → N' m H w)
    (hR : ∀ m H w, R m H w → R' m H w) (hX : ∀ i m H w, X i m H w → X' i m H w) : W P n w0 F0 c N' R' X' m H w :=
  fun a ha hh => wp_mono (h a ha hh) fun e a' w' hq => by
    cases e with
    | normal => obtain ⟨m, H, h1, h2, h3⟩ := hq; exact ⟨m, H, h1, h2, hN _ _ _ h3⟩
    | ret => obtain ⟨m, H, h1, h2, h3⟩ := hq; exact ⟨m, H, h1, h2, hR _ _ _ h3⟩
    | exit id => obtain ⟨m, H, h1, h2, h3⟩ := hq; exact ⟨m, H, h1, h2, hX _ _ _ _ h3⟩
    | goto l => exact hq
    | panic c => exact hq
    | outgrown => exact hq

theorem w_seq {x y : Code} (h : W P n w0 F0 x (fun m H w => W P n w0 F0 y N R X m H w) R X m H w) : W P n w0 F0 (.seq x y) N R X m H w :=
  fun a ha hh => wp_seq (wp_mono (h a ha hh) fun e a' w' hq => by
    cases e with
    | normal => obtain ⟨m, H, h1, h2, h3⟩ := hq; exact h3 a' h1 h2
    | ret => exact hq
    | exit id => exact hq
    | goto l => exact hq
    | panic c => exact hq
    | outgrown => exact hq)

/-- The way of leaving a block. -/
def blkX (id : Nat) (N : Cond) (X : Nat → Cond) : Nat → Cond := fun i m H w => bif Nat.beq i id then N m H w else X i m H w

theorem w_block {id : Nat} {c : Code} (h : W P n w0 F0 c N R (blkX id N X) m H w) : W P n w0 F0 (.block id c) N R X m H w :=
  fun a ha hh => wp_block (wp_mono (h a ha hh) fun e a' w' hq => by
    cases e with
    | normal => exact hq
    | ret => exact hq
    | exit i =>
      obtain ⟨m, H, h1, h2, h3⟩ := hq
      simp only [blkX] at h3
      simp only [Exit.inBlock]
      by_cases hi : i = id
      · subst hi
        simp only [Nat.beq_refl, cond_true] at h3
        rw [if_pos rfl]
        exact ⟨m, H, h1, h2, h3⟩
      · have : Nat.beq i id = false := by
          cases hb : Nat.beq i id with
          | false => rfl
          | true => exact absurd (Nat.eq_of_beq_eq_true hb) hi
        simp only [this, cond_false] at h3
        rw [if_neg hi]
        exact ⟨m, H, h1, h2, h3⟩
    | goto l => exact hq
    | panic c => exact hq
    | outgrown => exact hq)

theorem w_skip (h : N m H w) : W P n w0 F0 .skip N R X m H w := fun _ ha hh => wp_skip ⟨m, H, ha, hh, h⟩
theorem w_ret (h : R m H w) : W P n w0 F0 .ret N R X m H w := fun _ ha hh => wp_ret ⟨m, H, ha, hh, h⟩
theorem w_exit {id : Nat} (h : X id m H w) : W P n w0 F0 (.exit id) N R X m H w := fun _ ha hh => wp_exit ⟨m, H, ha, hh, h⟩
/-- Leaving the innermost block, the next one, the one after. -/
theorem w_exit0 {id : Nat} (h : N m H w) {N' : Cond} : W P n w0 F0 (.exit id) N' R (blkX id N X) m H w := w_exit (by simp only [blkX, Nat.beq_refl, cond_true]; exact h)
theorem w_exit1 {id i1 : Nat} {N1 N' : Cond} (h : N m H w) (h1 : Nat.beq id i1 = false) : W P n w0 F0 (.exit id) N' R (blkX i1 N1 (blkX id N X)) m H w :=
  w_exit (by simp only [blkX, Nat.beq_refl, cond_true, h1, cond_false]; exact h)
theorem w_exit2 {id i1 i2 : Nat} {N1 N2 N' : Cond} (h : N m H w) (h1 : Nat.beq id i1 = false) (h2 : Nat.beq id i2 = false) :
    W P n w0 F0 (.exit id) N' R (blkX i1 N1 (blkX i2 N2 (blkX id N X))) m H w :=
  w_exit (by simp only [blkX, Nat.beq_refl, cond_true, h1, h2, cond_false]; exact h)

theorem w_if {c : Operand} {x y : Code} {b : Bool} (hc : ev m c = some (.bool b)) (ht : b = true → W P n w0 F0 x N R X m H w)
    (hf : b = false → W P n w0 F0 y N R X m H w) : W P n w0 F0 (.cond c x y) N R X m H w := fun a ha hh => by
  cases b with
  | true => exact wp_cond (ha.eval hc) (ht rfl a ha hh)
  | false => exact wp_cond (ha.eval hc) (hf rfl a ha hh)
theorem w_ifd {c : Operand} {x y : Code} {p : Prop} [Decidable p] (hc : ev m c = some (.bool (decide p))) (ht : p → W P n w0 F0 x N R X m H w)
    (hf : ¬ p → W P n w0 F0 y N R X m H w) : W P n w0 F0 (.cond c x y) N R X m H w :=
  w_if hc (fun h => ht (of_decide_eq_true h)) (fun h => hf (of_decide_eq_false h))
/-- A test of the form 'p or q', 'p and q'. -/
theorem w_ifb {c : Operand} {x y : Code} {b : Bool} (hc : ev m c = some (.bool b)) (ht : b = true → W P n w0 F0 x N R X m H w)
    (hf : ¬ b = true → W P n w0 F0 y N R X m H w) : W P n w0 F0 (.cond c x y) N R X m H w :=
  w_if hc ht fun h => hf (by simp [h])
theorem w_ift {c : Operand} {x y : Code} (hc : ev m c = some (.bool true)) (ht : W P n w0 F0 x N R X m H w) : W P n w0 F0 (.cond c x y) N R X m H w :=
  w_if hc (fun _ => ht) (fun h => by cases h)
theorem w_iff {c : Operand} {x y : Code} (hc : ev m c = some (.bool false)) (hf : W P n w0 F0 y N R X m H w) : W P n w0 F0 (.cond c x y) N R X m H w :=
  w_if hc (fun h => by cases h) (fun _ => hf)

/-- A loop: the invariant bears a number, which each round lowers. -/
theorem w_loop {c : Code} (I : Nat → Cond) (k0 : Nat) (h0 : I k0 m H w)
    (hr : ∀ k m H w, I k m H w → W P n w0 F0 c (fun m' H' w' => ∃ k', k' < k ∧ I k' m' H' w') R X m H w) : W P n w0 F0 (.loop c) N R X m H w := fun a ha hh => by
  refine wp_loop_ghost (fun k a w => ∃ m H, Fr n m a ∧ Holds w0 F0 H w ∧ I k m H w) k0 ⟨m, H, ha, hh, h0⟩ ?_
  rintro k a w ⟨m, H, ha, hh, hI⟩
  refine wp_mono (hr k m H w hI a ha hh) fun e a' w' hq => ?_
  cases e with
  | normal => obtain ⟨m', H', h1, h2, k', h3, h4⟩ := hq; exact ⟨k', h3, m', H', h1, h2, h4⟩
  | ret => exact hq
  | exit id => exact hq
  | goto l => exact hq
  | panic c => exact hq
  | outgrown => exact hq

/-- Weaken the frame, change the order of the resources, drop some. -/
theorem w_sub {c : Code} (m' : Env) (hs : Sub m' m) (h : W P n w0 F0 c N R X m' H w) : W P n w0 F0 c N R X m H w := fun a ha hh => h a (ha.sub hs) hh
theorem w_perm {c : Code} (H' : List Res) (hp : H.Perm H') (h : W P n w0 F0 c N R X m H' w) : W P n w0 F0 c N R X m H w := fun a ha hh => h a ha (hh.perm hp)
theorem w_drop {c : Code} (H' : List Res) (hp : H'.Sublist H) (h : W P n w0 F0 c N R X m H' w) : W P n w0 F0 c N R X m H w := fun a ha hh => h a ha (hh.drop_ hp)
theorem w_pick {c : Code} (is : List Nat) {L E : List Res} (hp : pick is H = some (L, E)) (h : W P n w0 F0 c N R X m L w) : W P n w0 F0 c N R X m H w := fun a ha hh => h a ha (hh.pick (pick_perm _ _ hp))
theorem w_with {c : Code} (h : Holds w0 F0 H w → W P n w0 F0 c N R X m H w) : W P n w0 F0 c N R X m H w := fun a ha hh => h hh a ha hh
/-- Ways meet again: what holds behind the first piece. -/
theorem w_cut {x y : Code} (M : Cond) (h1 : W P n w0 F0 x M R X m H w) (h2 : ∀ m H w, M m H w → W P n w0 F0 y N R X m H w) : W P n w0 F0 (.seq x y) N R X m H w :=
  w_seq (h1.mono h2 (fun _ _ _ h => h) (fun _ _ _ _ h => h))

theorem w_post {c : Code} (M : Cond) (h1 : W P n w0 F0 c M R X m H w) (h2 : ∀ m H w, M m H w → N m H w) : W P n w0 F0 c N R X m H w :=
  h1.mono h2 (fun _ _ _ h => h) (fun _ _ _ _ h => h)

theorem w_reg {id : Nat} {l : List Oper} (h : WL P n w0 F0 l.toArray N l m H w) : W P n w0 F0 (.region id l.toArray false) N R X m H w :=
  fun a ha hh => wp_region_lit (h a ha hh _ fun _ _ hq => hq)

/-! ### The beginning and the end of a function -/

def resOf (m : Env) : List ResultVar → Option (List Value)
  | [] => some []
  | .tmp t :: r => match lk m t, resOf m r with
    | some v, some vs => some (v :: vs)
    | _, _ => .none
  | .cell _ _ :: _ => .none

/-- The results as one value. -/
def tup : List Value → Value
  | [v] => v
  | vs => .tuple vs.toArray

theorem enter {f : FuncId} {fn : Func} {c : Code} {args : List Value} {F : Nat → Prop} {Φ : Value → List Res → Prop} {H : List Res}
    (hf : P.funcs[f]? = some fn) (hb : fn.body = some c) (hn : fn.ntmps = n) (m : Env) (hl : Nat.ble args.length n = true) (hm : SubL m args)
    (hh : Holds w F H w)
    (h : W P n w F c (fun m H w' => ∃ v H1, (∀ a, Fr n m a → Holds w F H w' → (results fn a.tmps).run P w' = .ok v w') ∧ H1.Sublist H ∧ Φ v H1)
      (fun m H w' => ∃ v H1, (∀ a, Fr n m a → Holds w F H w' → (results fn a.tmps).run P w' = .ok v w') ∧ H1.Sublist H ∧ Φ v H1) (fun _ _ _ _ => False) m H w) :
    Spec P f args w F Φ := by
  have hl := Nat.le_of_ble_eq_true hl
  refine calls_of_wp hf hb (wp_mono (h _ ⟨?_, rfl, ?_⟩ hh) ?_)
  · simp only [List.size_toArray, Array.size_append, Array.size_replicate, hn]; omega
  · intro t v hv
    have := hm.get t v hv
    have hlt : t < args.length := (List.getElem?_eq_some_iff.1 this).1
    rw [Array.getElem?_append_left (by simpa using hlt)]
    simpa using this
  · intro e a' w' hq
    cases e with
    | normal =>
      obtain ⟨m, H, h1, h2, v, H1, hr, hs, hp⟩ := hq
      exact ⟨h1.defers, v, hr a' h1 h2, v, H1, rfl, h2.drop_ hs, hp⟩
    | ret =>
      obtain ⟨m, H, h1, h2, v, H1, hr, hs, hp⟩ := hq
      exact ⟨h1.defers, v, hr a' h1 h2, v, H1, rfl, h2.drop_ hs, hp⟩
    | exit id => obtain ⟨_, _, _, _, h⟩ := hq; exact h
    | goto l => exact hq
    | panic c => exact (hq : False).elim
    | outgrown => exact (hq : False).elim

theorem results_tmps {fn : Func} {l : List ResultVar} {vs : List Value} (hl : fn.results = l.toArray) (hv : resOf m l = some vs) (a : Act) (ha : Fr n m a) (w : World) :
    (results fn a.tmps).run P w = .ok (tup vs) w := by
  have key : ∀ (g : ResultVar → Sem Value), (∀ t, g (.tmp t) = pure (a.tmps.getD t undef)) → ∀ (l : List ResultVar) (vs : List Value), resOf m l = some vs →
      (l.mapM g).run P w = .ok vs w := by
    intro g hg l
    induction l with
    | nil => intro vs h; simp only [resOf, Option.some.injEq] at h; subst h; rfl
    | cons x l ih =>
      intro vs h
      cases x with
      | tmp t =>
        simp only [resOf] at h
        split at h
        · rename_i v us h1 h2
          simp only [Option.some.injEq] at h
          subst h
          have ht := ha.get t v h1
          have hr := ih us h2
          simp only [List.mapM_cons, Sem.run_bind, hg, Sem.run_pure, Result.andThen_ok, hr]
          simp [ht]
        · cases h
      | cell b t => simp [resOf] at h
  have hsz : ∀ (us : List Value), (if h : us.toArray.size = 1 then us.toArray[0] else Value.tuple us.toArray) = tup us := by
    intro us
    cases us with
    | nil => rfl
    | cons u us => cases us with
      | nil => rfl
      | cons v us => simp [tup]
  unfold results
  rw [hl]
  simp only [List.mapM_toArray, Sem.run_bind, Sem.run_map]
  rw [key _ (fun t => rfl) l vs hv]
  simp only [Result.andThen_ok, Sem.run_pure]
  rw [hsz]
end
end Go.Proofs.Ytkoklfagmbaapaa
