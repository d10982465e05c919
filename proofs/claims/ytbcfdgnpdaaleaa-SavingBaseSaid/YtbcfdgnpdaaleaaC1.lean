/- Linked lists: what the arrays say. No program is in sight. -/
import Derived.Test.YtbcfdgnpdaaleaaK9
namespace Go.Proofs.Ytbcfdgnpdaaleaa
open Go.RowKit

def hdE (e : Int) : List Nat → Int
  | [] => e
  | a :: _ => (a : Int)
/-- Each node's cell has the next node, the last one's the end. -/
def Lk (f : List Int) (e : Int) : List Nat → Prop
  | [] => True
  | a :: l => f[a]? = some (hdE e l) ∧ Lk f e l

theorem hdE_append (e : Int) (A B : List Nat) : hdE e (A ++ B) = hdE (hdE e B) A := by cases A <;> rfl
theorem Lk_append (f : List Int) (e : Int) : ∀ (A B : List Nat), Lk f e (A ++ B) ↔ Lk f (hdE e B) A ∧ Lk f e B
  | [], B => by simp [Lk]
  | a :: A, B => by
    simp only [List.cons_append, Lk, Lk_append f e A B, hdE_append, and_assoc]
theorem Lk_set_ne {f : List Int} {e v : Int} {a : Nat} : ∀ {l : List Nat}, a ∉ l → (Lk (f.set a v) e l ↔ Lk f e l)
  | [], _ => Iff.rfl
  | b :: l, h => by
    have hb : a ≠ b := fun e => h (by simp [e])
    simp only [Lk]
    rw [List.getElem?_set_ne hb, Lk_set_ne (fun hl => h (List.mem_cons_of_mem _ hl))]
theorem Lk_push {f : List Int} {e v : Int} : ∀ {l : List Nat}, Lk f e l → Lk (f ++ [v]) e l
  | [], _ => trivial
  | b :: l, h => ⟨by rw [List.getElem?_append_left (List.getElem?_eq_some_iff.1 h.1).1]; exact h.1, Lk_push h.2⟩
/-- Another end. -/
theorem Lk_last {f : List Int} {e e' : Int} {a : Nat} {A : List Nat} (h : Lk f e (A ++ [a])) (ha : a ∉ A) : Lk (f.set a e') e' (A ++ [a]) := by
  rw [Lk_append] at h ⊢
  refine ⟨(Lk_set_ne ha).2 h.1, ?_, trivial⟩
  have hlt := (List.getElem?_eq_some_iff.1 h.2.1).1
  simp [hdE, hlt]
/-- The array, in which the cell of the last node of A (if any) is set. -/
def setLast (f : List Int) (A : List Nat) (v : Int) : List Int := match A.reverse with | [] => f | a :: _ => f.set a v
theorem Lk_setLast {f : List Int} {e e' : Int} {A : List Nat} (h : Lk f e A) (hn : A.Nodup) : Lk (setLast f A e') e' A := by
  rcases List.eq_nil_or_concat A with rfl | ⟨A', a, rfl⟩
  · trivial
  · rw [List.concat_eq_append] at *
    have : a ∉ A' := by rw [List.nodup_append] at hn; exact fun h => hn.2.2 a h a (by simp) rfl
    simpa [setLast] using Lk_last (e' := e') h this
theorem Lk_setLast_ne {f : List Int} {e v : Int} {A l : List Nat} (hd : ∀ x ∈ A, x ∉ l) : Lk (setLast f A v) e l ↔ Lk f e l := by
  unfold setLast
  split
  · exact Iff.rfl
  · rename_i a r h
    exact Lk_set_ne (hd a (by have : a ∈ A.reverse := by rw [h]; simp
                              simpa using this))
theorem setLast_length (f : List Int) (A : List Nat) (v : Int) : (setLast f A v).length = f.length := by
  unfold setLast; split <;> simp
/-- A node is put between A and B. -/
theorem Lk_insert {f : List Int} {e : Int} {A B : List Nat} {x : Nat} (h : Lk f e (A ++ B)) (hn : (A ++ B).Nodup) (hx : x ∉ A ++ B) (hlt : x < f.length) :
    Lk (setLast (f.set x (hdE e B)) A x) e (A ++ x :: B) := by
  rw [List.mem_append, not_or] at hx
  rw [List.nodup_append] at hn
  rw [Lk_append] at h
  rw [Lk_append]
  refine ⟨Lk_setLast (e := hdE e B) ((Lk_set_ne hx.1).2 h.1) hn.1, ?_⟩
  refine (Lk_setLast_ne (fun y hy => ?_)).2 ⟨by simp [hlt], (Lk_set_ne hx.2).2 h.2⟩
  rw [List.mem_cons, not_or]
  exact ⟨fun e => hx.1 (e ▸ hy), fun hb => hn.2.2 y hy y hb rfl⟩
/-- A node is taken out. -/
theorem Lk_remove {f : List Int} {e : Int} {A B : List Nat} {x : Nat} (h : Lk f e (A ++ x :: B)) (hn : (A ++ x :: B).Nodup) : Lk (setLast f A (hdE e B)) e (A ++ B) := by
  rw [List.nodup_append] at hn
  rw [Lk_append] at h
  rw [Lk_append]
  refine ⟨Lk_setLast h.1 hn.1, (Lk_setLast_ne fun y hy hb => hn.2.2 y hy y (List.mem_cons_of_mem _ hb) rfl).2 h.2.2⟩
theorem Lk_get {f : List Int} {e : Int} {A B : List Nat} {x : Nat} (h : Lk f e (A ++ x :: B)) : f[x]? = some (hdE e B) := ((Lk_append ..).1 h).2.1
theorem Lk_lt {f : List Int} {e : Int} : ∀ {l : List Nat}, Lk f e l → ∀ x ∈ l, x < f.length
  | [], _, x, hx => by cases hx
  | a :: l, h, x, hx => by
    rcases List.mem_cons.1 hx with rfl | hx
    · exact (List.getElem?_eq_some_iff.1 h.1).1
    · exact Lk_lt h.2 x hx

theorem nodup_subset_len : ∀ (A B : List Nat), A.Nodup → (∀ x ∈ A, x ∈ B) → A.length ≤ B.length
  | [], _, _, _ => Nat.zero_le _
  | a :: A, B, hn, hs => by
    rw [List.nodup_cons] at hn
    have ha := hs a (List.mem_cons_self ..)
    have ih := nodup_subset_len A (B.erase a) hn.2 fun x hx => (List.mem_erase_of_ne (show x ≠ a from fun e => hn.1 (e ▸ hx))).2 (hs x (List.mem_cons_of_mem _ hx))
    rw [List.length_erase_of_mem ha] at ih
    have := List.length_pos_of_mem ha
    simp only [List.length_cons]
    omega
/-! ### The state of a list -/
section
variable {α : Type}
/-- The least number that no node has. -/
def Fresh (N : List Nat) (x : Nat) : Prop := x ∉ N ∧ ∀ j < x, j ∈ N
theorem Fresh.uniq {N : List Nat} {x y : Nat} (h : Fresh N x) (k : Fresh N y) : x = y := by
  rcases Nat.lt_trichotomy x y with h1 | h1 | h1
  · exact absurd (k.2 x h1) h.1
  · exact h1
  · exact absurd (h.2 y h1) k.1

abbrev nodes (l : List (Nat × α)) : List Nat := l.map Prod.fst
structure CInv (n : Nat) (l : List (Nat × α)) (used : List Bool) (nx pv : List Int) (vs : List α) : Prop where
  lx : nx.length = used.length
  lp : pv.length = used.length
  lv : vs.length = used.length
  le : used.length ≤ n
  nd : (nodes l).Nodup
  us : ∀ i : Nat, used[i]? = some true ↔ i ∈ nodes l
  nxt : Lk nx (-1) (nodes l)
  prv : Lk pv (-1) (nodes l).reverse
  val : ∀ p ∈ l, vs[p.1]? = some p.2

theorem CInv.new (n : Nat) : CInv n ([] : List (Nat × α)) [] [] [] [] := ⟨rfl, rfl, rfl, Nat.zero_le _, List.nodup_nil, by simp, trivial, trivial, by simp⟩
theorem CInv.lt {n : Nat} {l : List (Nat × α)} {used : List Bool} {nx pv : List Int} {vs : List α} (h : CInv n l used nx pv vs) : ∀ x ∈ nodes l, x < used.length := fun x hx => by
  have := (h.us x).2 hx
  exact (List.getElem?_eq_some_iff.1 this).1
theorem CInv.len {n : Nat} {l : List (Nat × α)} {used : List Bool} {nx pv : List Int} {vs : List α} (h : CInv n l used nx pv vs) : l.length ≤ used.length := by
  have := nodup_subset_len (nodes l) (List.range used.length) h.nd fun x hx => List.mem_range.2 (h.lt x hx)
  simpa using this
/-- If all places are used, there are as many nodes. -/
theorem CInv.full {n : Nat} {l : List (Nat × α)} {used : List Bool} {nx pv : List Int} {vs : List α} (h : CInv n l used nx pv vs) (ha : ∀ i, i < used.length → used[i]? = some true) : l.length = used.length := by
  refine Nat.le_antisymm h.len ?_
  have := nodup_subset_len (List.range used.length) (nodes l) List.nodup_range fun x hx => (h.us x).1 (ha x (List.mem_range.1 hx))
  simpa using this
/-- The least place that is not used, if there is one. -/
theorem CInv.fresh {n : Nat} {l : List (Nat × α)} {used : List Bool} {nx pv : List Int} {vs : List α} (h : CInv n l used nx pv vs) {x : Nat} (hx : used[x]? ≠ some true) (hb : ∀ j < x, used[j]? = some true) : Fresh (nodes l) x :=
  ⟨fun hm => hx ((h.us x).2 hm), fun j hj => (h.us j).1 (hb j hj)⟩
/-- One place more. -/
theorem CInv.more {n : Nat} {l : List (Nat × α)} {used : List Bool} {nx pv : List Int} {vs : List α} (h : CInv n l used nx pv vs) (hn : used.length < n) (a b : Int) (v : α) : CInv n l (used ++ [false]) (nx ++ [a]) (pv ++ [b]) (vs ++ [v]) := by
  refine ⟨by simp [h.lx], by simp [h.lp], by simp [h.lv], by simp; omega, h.nd, fun i => ?_, Lk_push h.nxt, Lk_push h.prv, fun p hp => ?_⟩
  · rw [← h.us i]
    rcases Nat.lt_trichotomy i used.length with hi | hi | hi
    · rw [List.getElem?_append_left hi]
    · subst hi; simp
    · rw [List.getElem?_eq_none (by simp; omega), List.getElem?_eq_none (by omega)]
  · have := h.val p hp
    rw [List.getElem?_append_left (List.getElem?_eq_some_iff.1 this).1]
    exact this
/-- A node between A and B. -/
theorem CInv.insert {n : Nat} {A B : List (Nat × α)} {used : List Bool} {nx pv : List Int} {vs : List α} (h : CInv n (A ++ B) used nx pv vs) {x : Nat} (hx : x ∉ nodes (A ++ B)) (hlt : x < used.length) (v : α) :
    CInv n (A ++ (x, v) :: B) (used.set x true) (setLast (nx.set x (hdE (-1) (nodes B))) (nodes A) x) (setLast (pv.set x (hdE (-1) (nodes A).reverse)) (nodes B).reverse x) (vs.set x v) := by
  have hnd := h.nd
  simp only [nodes, List.map_append] at hnd hx
  refine ⟨by rw [setLast_length]; simp [h.lx], by rw [setLast_length]; simp [h.lp], by simp [h.lv], by simp [h.le], ?_, fun i => ?_, ?_, ?_, fun p hp => ?_⟩
  · simp only [nodes, List.map_append, List.map_cons]
    rw [List.nodup_append] at hnd ⊢
    rw [List.mem_append, not_or] at hx
    refine ⟨hnd.1, List.nodup_cons.2 ⟨hx.2, hnd.2.1⟩, fun a ha b hb => ?_⟩
    rcases List.mem_cons.1 hb with rfl | hb
    · exact fun e => hx.1 (e ▸ ha)
    · exact hnd.2.2 a ha b hb
  · have := h.us i
    simp only [nodes, List.map_append, List.map_cons, List.mem_append, List.mem_cons] at this ⊢
    by_cases hi : x = i
    · subst hi; simp [hlt]
    · rw [List.getElem?_set_ne hi, this]
      have : i ≠ x := fun e => hi e.symm
      simp [this]
  · have h1 := h.nxt
    simp only [nodes, List.map_append, List.map_cons] at h1 ⊢
    exact Lk_insert h1 hnd hx (by rw [h.lx]; exact hlt)
  · have h1 := h.prv
    simp only [nodes, List.map_append, List.map_cons, List.reverse_append, List.reverse_cons, List.append_assoc, List.singleton_append] at h1 ⊢
    have := Lk_insert (x := x) h1 (by rw [← List.reverse_append]; exact ((List.reverse_perm _).symm.nodup hnd)) (by rw [← List.reverse_append, List.mem_reverse]; exact hx) (by rw [h.lp]; exact hlt)
    simpa using this
  · have : p ∈ A ++ B ∨ p = (x, v) := by
      simp only [List.mem_append, List.mem_cons] at hp ⊢
      rcases hp with h | h | h
      · exact .inl (.inl h)
      · exact .inr h
      · exact .inl (.inr h)
    rcases this with hp | rfl
    · have h2 := h.val p hp
      have : x ≠ p.1 := fun e => hx (by rw [e, ← List.map_append]; exact List.mem_map_of_mem hp)
      rw [List.getElem?_set_ne this]; exact h2
    · simp [h.lv, hlt]
/-- A node is taken out. -/
theorem CInv.remove {n : Nat} {A B : List (Nat × α)} {x : Nat} {v z : α} {used : List Bool} {nx pv : List Int} {vs : List α} (h : CInv n (A ++ (x, v) :: B) used nx pv vs) :
    CInv n (A ++ B) (used.set x false) (setLast nx (nodes A) (hdE (-1) (nodes B))) (setLast pv (nodes B).reverse (hdE (-1) (nodes A).reverse)) (vs.set x z) := by
  have hnd := h.nd
  simp only [nodes, List.map_append, List.map_cons] at hnd
  have hnd2 := hnd
  rw [List.nodup_append, List.nodup_cons] at hnd2
  have hxA : x ∉ A.map Prod.fst := fun hx => hnd2.2.2 x hx x (List.mem_cons_self ..) rfl
  have hxB := hnd2.2.1.1
  refine ⟨by rw [setLast_length]; simp [h.lx], by rw [setLast_length]; simp [h.lp], by simp [h.lv], by simp [h.le], ?_, fun i => ?_, ?_, ?_, fun p hp => ?_⟩
  · simp only [nodes, List.map_append]
    rw [List.nodup_append]
    exact ⟨hnd2.1, hnd2.2.1.2, fun a ha b hb => hnd2.2.2 a ha b (List.mem_cons_of_mem _ hb)⟩
  · have := h.us i
    simp only [nodes, List.map_append, List.map_cons, List.mem_append, List.mem_cons] at this ⊢
    by_cases hi : x = i
    · subst hi
      have h2 : ¬ (x ∈ A.map Prod.fst ∨ x ∈ B.map Prod.fst) := fun h => h.elim hxA hxB
      simp only [h2, iff_false]
      by_cases hlt : x < used.length
      · simp [hlt]
      · rw [List.getElem?_eq_none (by simp; omega)]; simp
    · rw [List.getElem?_set_ne hi, this]
      have : i ≠ x := fun e => hi e.symm
      simp [this]
  · have h1 := h.nxt
    simp only [nodes, List.map_append, List.map_cons] at h1 ⊢
    exact Lk_remove h1 hnd
  · have h1 := h.prv
    simp only [nodes, List.map_append, List.map_cons, List.reverse_append, List.reverse_cons, List.append_assoc, List.singleton_append] at h1 ⊢
    have hnr := (List.reverse_perm _).symm.nodup hnd
    simp only [List.reverse_append, List.reverse_cons, List.append_assoc, List.singleton_append] at hnr
    exact Lk_remove h1 hnr
  · have hp' : p ∈ A ++ (x, v) :: B := by
      simp only [List.mem_append, List.mem_cons] at hp ⊢
      exact hp.imp id .inr
    have h2 := h.val p hp'
    have : x ≠ p.1 := by
      rintro rfl
      rcases List.mem_append.1 hp with hp | hp
      · exact hxA (List.mem_map_of_mem hp)
      · exact hxB (List.mem_map_of_mem hp)
    rw [List.getElem?_set_ne this]; exact h2
/-- A node stands at one place. -/
theorem node_uniq : ∀ {A A' B B' : List (Nat × α)} {x : Nat} {v v' : α}, (nodes (A ++ (x, v) :: B)).Nodup → A ++ (x, v) :: B = A' ++ (x, v') :: B' → A' = A ∧ v' = v ∧ B' = B
  | [], [], B, B', x, v, v', _, h => by simp at h; exact ⟨rfl, h.1.symm, h.2.symm⟩
  | [], p :: A', B, B', x, v, v', hn, h => by
    simp only [List.nil_append, List.cons_append, List.cons.injEq] at h
    obtain ⟨rfl, rfl⟩ := h
    simp [nodes] at hn
  | p :: A, [], B, B', x, v, v', hn, h => by
    simp only [List.nil_append, List.cons_append, List.cons.injEq] at h
    obtain ⟨rfl, rfl⟩ := h
    simp [nodes] at hn
  | p :: A, q :: A', B, B', x, v, v', hn, h => by
    simp only [List.cons_append, List.cons.injEq] at h
    obtain ⟨rfl, h⟩ := h
    simp only [nodes, List.cons_append, List.map_cons, List.nodup_cons] at hn
    obtain ⟨rfl, h1, h2⟩ := node_uniq hn.2 h
    exact ⟨rfl, h1, h2⟩
/-- The place of a node. -/
theorem split_node {l : List (Nat × α)} {x : Nat} (h : x ∈ nodes l) : ∃ A v B, l = A ++ (x, v) :: B := by
  obtain ⟨p, hp, rfl⟩ := List.mem_map.1 h
  obtain ⟨A, B, rfl⟩ := List.append_of_mem hp
  exact ⟨A, p.2, B, rfl⟩
end
end Go.Proofs.Ytbcfdgnpdaaleaa
