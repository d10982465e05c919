/- Orders by count: the plain facts. -/
import Derived.Test.YtbcfdgnpdaaleaaCF
namespace Go.Proofs.Ytbcfdgnpdaaleaa
open Go.RowKit

/-- A bucket: its node, its count, the block of its list, the list. -/
abbrev Bk := Nat × Nat × Nat × List (Nat × Int)
def bks (S : List Bk) : List (Nat × (Nat × Option Nat)) := S.map fun s => (s.1, (s.2.1, some s.2.2.1))
def bfl (s : Bk) : List (Int × Nat) := s.2.2.2.map fun p => (p.2, s.2.1)
def flat (S : List Bk) : List (Int × Nat) := S.flatMap bfl
theorem bks_app (A B : List Bk) : bks (A ++ B) = bks A ++ bks B := by simp [bks]
theorem bks_cons (s : Bk) (B : List Bk) : bks (s :: B) = (s.1, (s.2.1, some s.2.2.1)) :: bks B := rfl
theorem flat_app (A B : List Bk) : flat (A ++ B) = flat A ++ flat B := by simp [flat]
theorem flat_cons (s : Bk) (B : List Bk) : flat (s :: B) = bfl s ++ flat B := by simp [flat]
theorem bks_len (S : List Bk) : (bks S).length = S.length := by simp [bks]
theorem nodes_bks (S : List Bk) : nodes (bks S) = S.map (·.1) := by simp [nodes, bks]
theorem flat_len {S : List Bk} (h : ∀ s ∈ S, s.2.2.2 ≠ []) : S.length ≤ (flat S).length := by
  induction S with
  | nil => simp
  | cons s S ih =>
    have h1 := List.length_pos_iff.2 (h s (List.mem_cons_self ..))
    have h2 := ih fun x hx => h x (List.mem_cons_of_mem _ hx)
    rw [flat_cons, List.length_append, List.length_cons, bfl, List.length_map]
    omega

/-! ### What is done to an order -/
abbrev Ord := List (Int × Nat)
def ids (l : Ord) : List Int := l.map (·.1)
def look : Ord → Int → Option Nat
  | [], _ => none
  | p :: l, id => if p.1 = id then some p.2 else look l id
def ins : Ord → Int → Nat → Ord
  | [], id, c => [(id, c)]
  | p :: l, id, c => if p.2 ≤ c then p :: ins l id c else (id, c) :: p :: l
def rem : Ord → Int → Ord
  | [], _ => []
  | p :: l, id => if p.1 = id then l else p :: rem l id
theorem look_none {l : Ord} {id : Int} : look l id = none ↔ id ∉ ids l := by
  induction l with
  | nil => simp [look, ids]
  | cons p l ih =>
    rw [look]
    split
    · rename_i h; simp [ids, h]
    · rename_i h; rw [ih]; simp [ids]; intro _; exact fun e => h e.symm
theorem look_app_left {A B : Ord} {id : Int} (h : id ∉ ids A) : look (A ++ B) id = look B id := by
  induction A with
  | nil => rfl
  | cons p A ih =>
    simp only [ids, List.map_cons, List.mem_cons, not_or] at h
    rw [List.cons_append, look, if_neg (fun e => h.1 e.symm)]
    exact ih h.2
theorem look_at {A B : Ord} {id : Int} {c : Nat} (h : id ∉ ids A) : look (A ++ (id, c) :: B) id = some c := by rw [look_app_left h, look, if_pos rfl]
theorem rem_at {A B : Ord} {id : Int} {c : Nat} (h : id ∉ ids A) : rem (A ++ (id, c) :: B) id = A ++ B := by
  induction A with
  | nil => simp [rem]
  | cons p A ih =>
    simp only [ids, List.map_cons, List.mem_cons, not_or] at h
    rw [List.cons_append, rem, if_neg (fun e => h.1 e.symm), ih h.2]
    rfl
theorem ins_at {A B : Ord} {id : Int} {c : Nat} (hA : ∀ p ∈ A, p.2 ≤ c) (hB : ∀ p ∈ B, c < p.2) : ins (A ++ B) id c = A ++ (id, c) :: B := by
  induction A with
  | nil =>
    cases B with
    | nil => rfl
    | cons p B =>
      have := hB p (List.mem_cons_self ..)
      rw [List.nil_append, ins, if_neg (by omega)]; rfl
  | cons p A ih =>
    have := hA p (List.mem_cons_self ..)
    rw [List.cons_append, ins, if_pos this, ih fun q hq => hA q (List.mem_cons_of_mem _ hq)]
    rfl
theorem ids_app (A B : Ord) : ids (A ++ B) = ids A ++ ids B := by simp [ids]

/-! ### Distinct numbers below a bound -/
theorem range_len {l : List Int} {n : Nat} (hn : l.Nodup) (hr : ∀ z ∈ l, 0 ≤ z ∧ z < n) : l.length ≤ n := by
  have h1 : (l.map Int.toNat).Nodup := by
    refine List.Pairwise.map _ ?_ (hn.imp_of_mem fun {a b} ha hb hab => (show ¬ a.toNat = b.toNat from fun e => ?_)) 
    · exact fun a b h => h
    · have := hr a ha; have := hr b hb; exact hab (by omega)
  have h2 := nodup_subset_len (l.map Int.toNat) (List.range n) h1 fun x hx => by
    obtain ⟨z, hz, rfl⟩ := List.mem_map.1 hx
    have := hr z hz
    exact List.mem_range.2 (by omega)
  simpa using h2
theorem range_lt {l : List Int} {n : Nat} {id : Int} (hn : l.Nodup) (hr : ∀ z ∈ l, 0 ≤ z ∧ z < n) (hi : 0 ≤ id ∧ id < n) (hd : id ∉ l) : l.length < n := by
  have := range_len (l := id :: l) (n := n) (List.nodup_cons.2 ⟨hd, hn⟩) (fun z hz => by
    rcases List.mem_cons.1 hz with rfl | hz
    · exact hi
    · exact hr z hz)
  rw [List.length_cons] at this
  omega

/-! ### The places -/
def pcell (o : Option (Nat × Nat)) : List Value := match o with
  | none => [.bool false, .int .i64 0, .int .i64 0]
  | some (x, y) => [.bool true, .int .i64 x, .int .i64 y]
def pcells (pl : List (Option (Nat × Nat))) : List Value := pl.flatMap pcell
theorem pcell_len (o : Option (Nat × Nat)) : (pcell o).length = 3 := by cases o <;> rfl
theorem pcells_len (pl : List (Option (Nat × Nat))) : (pcells pl).length = pl.length * 3 := by
  induction pl with
  | nil => rfl
  | cons o pl ih => simp only [pcells, List.flatMap_cons, List.length_append, pcell_len, List.length_cons] at ih ⊢; omega
theorem pcells_app (a b : List (Option (Nat × Nat))) : pcells (a ++ b) = pcells a ++ pcells b := by simp [pcells]
theorem pcells_get {pl : List (Option (Nat × Nat))} {i : Nat} {o : Option (Nat × Nat)} (h : pl[i]? = some o) : ((pcells pl).drop (0 + i * 3)).take 3 = pcell o := by
  obtain ⟨hi, rfl⟩ := List.getElem?_eq_some_iff.1 h
  have e : pl = pl.take i ++ pl[i] :: pl.drop (i + 1) := by rw [← List.drop_eq_getElem_cons hi, List.take_append_drop]
  have hl : (pcells (pl.take i)).length = i * 3 := by rw [pcells_len, List.length_take]; omega
  have e2 : pcells pl = pcells (pl.take i) ++ (pcell pl[i] ++ pcells (pl.drop (i + 1))) := by
    conv => lhs; rw [e]
    simp only [pcells, List.flatMap_append, List.flatMap_cons]
  rw [e2, Nat.zero_add, ← hl, List.drop_left, List.take_append_of_le_length (by rw [pcell_len]; exact Nat.le_refl _), List.take_of_length_le (by rw [pcell_len]; exact Nat.le_refl _)]
theorem pcells_set {pl : List (Option (Nat × Nat))} {i : Nat} (o : Option (Nat × Nat)) (hi : i < pl.length) : (pcells pl).take (0 + i * 3) ++ pcell o ++ (pcells pl).drop (0 + i * 3 + 3) = pcells (pl.set i o) := by
  have e : pl = pl.take i ++ pl[i] :: pl.drop (i + 1) := by rw [← List.drop_eq_getElem_cons hi, List.take_append_drop]
  have hl : (pcells (pl.take i)).length = i * 3 := by rw [pcells_len, List.length_take]; omega
  have e2 : pcells pl = pcells (pl.take i) ++ (pcell pl[i] ++ pcells (pl.drop (i + 1))) := by
    conv => lhs; rw [e]
    simp only [pcells, List.flatMap_append, List.flatMap_cons]
  have e3 : pl.set i o = pl.take i ++ o :: pl.drop (i + 1) := List.set_eq_take_append_cons_drop.trans (if_pos hi)
  have e4 : pcells (pl.set i o) = pcells (pl.take i) ++ (pcell o ++ pcells (pl.drop (i + 1))) := by
    rw [e3]; simp only [pcells, List.flatMap_append, List.flatMap_cons]
  rw [e4, e2, Nat.zero_add, ← hl, List.take_left, List.append_assoc]
  congr 2
  rw [← List.append_assoc, show (pcells (pl.take i)).length + 3 = (pcells (pl.take i) ++ pcell pl[i]).length by rw [List.length_append, pcell_len], List.drop_left]

/-- What holds of buckets and places. -/
structure RInv (n : Nat) (S : List Bk) (pl : List (Option (Nat × Nat))) : Prop where
  len : pl.length = n
  asc : (S.map fun s => s.2.1).Pairwise (· < ·)
  ne : ∀ s ∈ S, s.2.2.2 ≠ []
  nd : (S.map (·.1)).Nodup
  ndi : ∀ s ∈ S, (nodes s.2.2.2).Nodup
  nid : (ids (flat S)).Nodup
  rng : ∀ z ∈ ids (flat S), 0 ≤ z ∧ z < n
  at_ : ∀ s ∈ S, ∀ p ∈ s.2.2.2, pl[p.2.toNat]? = some (some (s.1, p.1))
  no : ∀ id : Nat, id < n → (id : Int) ∉ ids (flat S) → pl[id]? = some none
  cnt : ∀ s ∈ S, s.2.1 ≤ 9223372036854775808
theorem RInv.new (n : Nat) : RInv n [] (List.replicate n none) :=
  ⟨List.length_replicate, List.Pairwise.nil, by simp, List.nodup_nil, by simp, List.nodup_nil, by simp [flat, ids], by simp, fun id h _ => by simp [h], by simp⟩
end Go.Proofs.Ytbcfdgnpdaaleaa
