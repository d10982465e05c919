/- Tables by the method of Misra and Gries against the reference, plain. -/
import Derived.Test.YtkoklfagmbaapaaQ12
import Derived.Test.YtkoklfagmbaapaaT9
namespace Go.Proofs.Ytkoklfagmbaapaa
open Go.RowKit

def prs (l : List En) : UM := l.map fun x => (x.1, x.2.1)
theorem prs_app (A B : List En) : prs (A ++ B) = prs A ++ prs B := by simp [prs]
theorem keys_prs (l : List En) : keys (prs l) = eks l := by rw [keys, prs, List.map_map]; rfl
theorem prs_len (l : List En) : (prs l).length = l.length := by rw [prs, List.length_map]
theorem prs_mem {l : List En} {k : ByteArray} {o : Nat} : (k, o) ∈ prs l ↔ ∃ s, (k, o, s) ∈ l := by
  simp only [prs, List.mem_map]
  constructor
  · rintro ⟨⟨a, b, c⟩, h, e⟩
    injection e with e1 e2
    subst e1; subst e2
    exact ⟨c, h⟩
  · rintro ⟨s, h⟩
    exact ⟨(k, o, s), h, rfl⟩
/-- The reference's list has the table's keys and weights. -/
def FL (M : UM) (l : List En) : Prop := (prs l).Perm M ∧ (keys M).Nodup
section
variable {M M' : UM} {l l' : List En} {k : ByteArray} {o : Nat}
theorem mget_mem (h : mget M k = some o) : (k, o) ∈ M := by
  unfold mget at h
  obtain ⟨x, hx, rfl⟩ := Option.map_eq_some_iff.1 h
  have h1 := List.mem_of_find?_eq_some hx
  have h2 : x.1 = k := by simpa using List.find?_some hx
  rw [← h2]
  exact h1
theorem FL.nd (h : FL M l) : (eks l).Nodup := by
  rw [← keys_prs]
  exact (h.1.map Prod.fst).nodup_iff.2 h.2
theorem FL.ks (h : FL M l) : (eks l).Perm (keys M) := by
  rw [← keys_prs]
  exact h.1.map Prod.fst
theorem FL.len (h : FL M l) : l.length = M.length := by rw [← prs_len]; exact h.1.length_eq
theorem FL.nope (h : FL M l) : k ∉ eks l ↔ mget M k = none :=
  ⟨fun hk => mget_none fun h' => hk (h.ks.mem_iff.2 h'), fun hk h' => keys_none hk (h.ks.mem_iff.1 h')⟩
theorem FL.sm (h : FL M l) : mget M k = some o ↔ ∃ s, (k, o, s) ∈ l :=
  ⟨fun hk => prs_mem.1 (h.1.mem_iff.2 (mget_mem hk)), fun hk => mget_some h.2 (h.1.mem_iff.1 (prs_mem.2 hk))⟩
theorem FL.here {A B : List En} {s : Nat} (h : FL M l) (he : l = A ++ (k, o, s) :: B) : mget M k = some o := h.sm.2 ⟨s, by rw [he]; simp⟩
/-- Taking out. -/
theorem FL.del {A B : List En} {s : Nat} (h : FL M l) (he : l = A ++ (k, o, s) :: B) : (prs (A ++ B)).Perm (mdel M k) := by
  have h1 := mdel_perm h.1 k
  have h2 : (prs l).Perm ((k, o) :: prs (A ++ B)) := by
    rw [he, prs_app, prs_app]
    exact List.perm_middle
  have hn : k ∉ keys (prs (A ++ B)) := by
    have h3 := (h2.map Prod.fst).nodup_iff.1 (by rw [show (prs l).map Prod.fst = eks l from keys_prs l]; exact h.nd)
    exact (List.nodup_cons.1 h3).1
  have h4 := mdel_perm h2 k
  rw [mdel_self, mdel_none hn] at h4
  exact h4.symm.trans h1
theorem mdel_none' (h : mget M k = none) : mdel M k = M := mdel_none (keys_none h)
theorem FL.take (h : FL M l) (ht : RTake l k l') : FL (mdel M k) l' := by
  refine ⟨?_, mdel_nd h.2 k⟩
  rcases ht with ⟨hk, rfl⟩ | ⟨A, x, B, he, rfl, _, rfl⟩
  · rw [mdel_none' (h.nope.1 hk)]; exact h.1
  · exact h.del he
theorem FL.get {ded o' s' : Nat} {k' : ByteArray} {is : Bool} (h : FL M l) (hg : RGet 2 l ded k k' o' s' is) : fget M ded k = .tuple [enV k' o' s', .bool is].toArray := by
  rcases hg with ⟨rfl, hk, rfl, rfl, rfl⟩ | ⟨rfl, A, s, B, he, _, rfl, rfl⟩
  · rw [fget, h.nope.1 hk]; rfl
  · rw [fget, h.here he]
theorem FL.mn (h : FL M l) {ks : List ByteArray} (hp : ks.Perm (keys M)) (v : Nat) : dmin v M ks = rmin v l := by
  have h1 : dmin v M ks = (ks.map fun k => (mget M k).getD 0).foldl (fun a b => Min.min a b) v := by rw [dmin, List.foldl_map]
  have h2 : rmin v l = (l.map fun x => x.2.1).foldl (fun a b => Min.min a b) v := by rw [rmin, List.foldl_map]
  have h3 : (ks.map fun k => (mget M k).getD 0).Perm (l.map fun x => x.2.1) := by
    refine (hp.map _).trans ?_
    have h4 : ((eks l).map fun k => (mget M k).getD 0) = l.map fun x => x.2.1 := by
      rw [eks, List.map_map]
      refine List.map_congr_left fun x hx => ?_
      show (mget M x.1).getD 0 = x.2.1
      rw [h.sm.2 ⟨x.2.2, hx⟩]
      rfl
    rw [← h4]
    exact (h.ks.map _).symm
  rw [h1, h2]
  exact h3.foldl_eq' (fun a _ b _ c => by omega) v
theorem FL.redp (h : FL M l) {ks : List ByteArray} (hp : ks.Perm (keys M)) (d : Nat) (hd : ∀ x ∈ l, d ≤ x.2.1) : (prs (red d l)).Perm (ks.foldl (dstep d) M) ∧ (keys (ks.foldl (dstep d) M)).Nodup := by
  have hkn : ks.Nodup := hp.nodup_iff.2 h.2
  have hnd := dfold_nd (d := d) ks h.2
  refine ⟨?_, hnd⟩
  have hrn : (prs (red d l)).Nodup := by
    have h1 : (keys (prs (red d l))).Nodup := by
      rw [keys_prs]
      have h2 : (eks (red d l)).Sublist (eks l) := by
        have : ∀ L : List En, (eks (red d L)).Sublist (eks L) := by
          intro L
          induction L with
          | nil => exact List.Sublist.refl _
          | cons x L ih =>
            by_cases hx : x.2.1 - d = 0
            · rw [show red d (x :: L) = red d L by simp [Go.Proofs.Ytkoklfagmbaapaa.red, red1, hx]]
              exact ih.cons _
            · rw [show red d (x :: L) = (x.1, x.2.1 - d, x.2.2) :: red d L by simp [Go.Proofs.Ytkoklfagmbaapaa.red, red1, hx]]
              exact ih.cons_cons _
        exact this l
      exact h.nd.sublist h2
    exact List.Pairwise.of_map Prod.fst (fun a b hab e => hab (by rw [e])) h1
  have hfn : (ks.foldl (dstep d) M).Nodup := List.Pairwise.of_map Prod.fst (fun a b hab e => hab (by rw [e])) hnd
  refine (List.perm_ext_iff_of_nodup hrn hfn).2 fun ⟨q, o⟩ => ?_
  have hF : (q, o) ∈ ks.foldl (dstep d) M ↔ mget (ks.foldl (dstep d) M) q = some o := ⟨fun hm => mget_some hnd hm, mget_mem⟩
  rw [hF, prs_mem]
  by_cases hq : q ∈ ks
  · rw [dfold_get ks M hkn hq]
    obtain ⟨o1, ho1⟩ := isSome_in (hp.mem_iff.1 hq)
    obtain ⟨s1, hs1⟩ := h.sm.1 ho1
    have hd1 : d ≤ o1 := hd _ hs1
    rw [ho1, Option.getD_some]
    constructor
    · rintro ⟨s, hs⟩
      obtain ⟨x, hx, hxe⟩ := List.mem_filterMap.1 hs
      unfold red1 at hxe
      split at hxe
      · cases hxe
      · rename_i hne
        injection hxe with hxe
        injection hxe with e1 e2
        injection e2 with e2 e3
        have h5 : mget M q = some x.2.1 := h.sm.2 ⟨x.2.2, by rw [← e1]; exact hx⟩
        rw [ho1] at h5
        injection h5 with h5
        rw [if_neg (by omega)]
        congr 1
        omega
    · intro hm
      split at hm
      · cases hm
      · injection hm with hm
        refine ⟨s1, List.mem_filterMap.2 ⟨_, hs1, ?_⟩⟩
        show (if o1 - d = 0 then none else some (q, o1 - d, s1)) = _
        rw [if_neg (by omega), hm]
  · rw [dfold_ne ks M hq]
    have hno : mget M q = none := mget_none fun h' => hq (hp.mem_iff.2 h')
    rw [hno]
    constructor
    · rintro ⟨s, hs⟩
      obtain ⟨x, hx, hxe⟩ := List.mem_filterMap.1 hs
      unfold red1 at hxe
      split at hxe
      · cases hxe
      · injection hxe with hxe
        injection hxe with e1 e2
        have h5 : mget M q = some x.2.1 := h.sm.2 ⟨x.2.2, by rw [← e1]; exact hx⟩
        rw [hno] at h5
        cases h5
    · intro hm; cases hm
theorem FL.add {n ded ded' base' total total' sum' v : Nat} {e e' : Int} (h : FL M l) (hA : FAddG n M ded total k v e M' ded' total') (hR : RAddG n l ded total k v e' l' base' sum') :
    e' = e ∧ base' = ded' ∧ sum' = total' ∧ FL M' l' := by
  rcases hA with ⟨he, rfl, rfl, rfl, hE⟩ | ⟨rfl, hk, hv, ht, rfl, hA⟩
  · rcases hR with ⟨_, rfl, rfl, rfl, hE'⟩ | ⟨_, hk, hv, ht, _⟩
    · refine ⟨?_, rfl, rfl, h⟩
      rcases hE with ⟨h1, rfl⟩ | ⟨h1, h2, rfl⟩ | ⟨h1, h2, h3, rfl⟩ <;> rcases hE' with ⟨h4, rfl⟩ | ⟨h4, h5, rfl⟩ | ⟨h4, h5, h6, rfl⟩ <;> first | rfl | exact absurd h1 h4 | exact absurd h4 h1 | exact absurd h2 h5 | exact absurd h5 h2
    · rcases hE with ⟨h1, _⟩ | ⟨_, h2, _⟩ | ⟨_, _, h3, _⟩
      · exact absurd h1 hk
      · exact absurd h2 hv
      · omega
  · rcases hR with ⟨_, _, _, _, hE'⟩ | ⟨rfl, _, _, _, rfl, hR⟩
    · rcases hE' with ⟨h1, _⟩ | ⟨_, h2, _⟩ | ⟨_, _, h3, _⟩
      · exact absurd h1 hk
      · exact absurd h2 hv
      · omega
    · refine ⟨rfl, ?_⟩
      rcases hR with ⟨⟨A, o, s, B, he, hkA, rfl⟩, rfl⟩ | ⟨hk', hD⟩
      · have ho := h.here he
        rcases hA with ⟨o', ho', rfl, rfl⟩ | ⟨hno, _⟩ | ⟨hno, _⟩
        · rw [ho] at ho'
          injection ho' with ho'
          subst ho'
          refine ⟨rfl, rfl, ?_, over_nd h.2⟩
          rw [prs_app]
          exact (List.perm_append_singleton _ _).trans ((h.del he).cons _)
        · rw [ho] at hno; cases hno
        · rw [ho] at hno; cases hno
      · have hno := h.nope.1 hk'
        rcases hA with ⟨o', ho', _⟩ | ⟨_, hl, rfl, rfl⟩ | ⟨_, hl, ks, hp, hs, rfl, rfl⟩
        · rw [hno] at ho'; cases ho'
        · rcases hD with ⟨_, rfl, rfl⟩ | ⟨h2, _⟩
          · refine ⟨rfl, rfl, ?_, new_nd h.2 hno⟩
            rw [prs_app]
            exact (List.perm_append_singleton _ _).trans (h.1.cons _)
          · have := h.len; omega
        · rcases hD with ⟨h2, _⟩ | ⟨_, rfl, rfl⟩
          · have := h.len; omega
          · rw [h.mn hp]
            obtain ⟨h6, h7⟩ := h.redp hp (rmin v l) (fun x hx => rmin_mem v hx)
            refine ⟨rfl, rfl, ?_⟩
            have hno' : mget (ks.foldl (dstep (rmin v l)) M) k = none := (dfold_ne ks M (fun h' => keys_none hno (hp.mem_iff.1 h'))).trans hno
            rw [FL, prs_app]
            split
            · exact ⟨(List.perm_append_singleton _ _).trans (h6.cons _), new_nd h7 hno'⟩
            · rw [show prs [] = [] from rfl, List.append_nil]
              exact ⟨h6, h7⟩
theorem FL.swap {ded xo xs : Nat} {x : ByteArray} {u u' : Value} (h : FL M l) (hS : FSwapG M ded k x xo xs u M') (hR : RSwapG l ded k x xo xs u' l') :
    ∃ (k' : ByteArray) (o' s' : Nat) (e : Int), u = .tuple [enV k' o' s', .int .i64 e].toArray ∧ u' = u ∧ FL M' l' := by
  have hx1 : x ∈ eks l ↔ (mget M x).isSome = true := by
    constructor
    · intro hx
      obtain ⟨o, ho⟩ := isSome_in (h.ks.mem_iff.1 hx)
      rw [ho]; rfl
    · intro hx
      refine Classical.byContradiction fun hn => ?_
      rw [h.nope.1 hn] at hx
      cases hx
  rcases hS with ⟨e, rfl, rfl, hE⟩ | ⟨o, ho, hx, hno, hc, rfl, rfl⟩
  · rcases hR with ⟨e', rfl, rfl, hE'⟩ | ⟨o', s', A, B, hAt, hx', hno', hc', _, _⟩
    · refine ⟨ByteArray.empty, 0, 0, e, rfl, ?_, h⟩
      suffices e' = e by rw [this]
      rcases hE with ⟨h1, rfl⟩ | ⟨o, ho, hE⟩
      · rcases hE' with ⟨_, rfl⟩ | ⟨o', s', A, B, hAt, _⟩
        · rfl
        · rw [h.here hAt.1] at h1; cases h1
      · rcases hE' with ⟨h1, _⟩ | ⟨o', s', A, B, hAt, hE'⟩
        · rw [h.nope.1 h1] at ho; cases ho
        · rw [h.here hAt.1] at ho
          injection ho with ho
          subst ho
          rcases hE with ⟨h1, rfl⟩ | ⟨h1, ⟨h2, rfl⟩ | ⟨h2, h3, rfl⟩⟩ <;> rcases hE' with ⟨h4, rfl⟩ | ⟨h4, ⟨h5, rfl⟩ | ⟨h5, h6, rfl⟩⟩ <;> first | rfl | exact absurd h1 h4 | exact absurd h4 h1 | exact absurd (hx1.2 h2) h5 | exact absurd h5 (h.nope.2 h2)
    · exfalso
      rcases hE with ⟨h1, _⟩ | ⟨o, ho, hE⟩
      · rw [h.here hAt.1] at h1; cases h1
      · rw [h.here hAt.1] at ho
        injection ho with ho
        subst ho
        rcases hE with ⟨h1, _⟩ | ⟨_, ⟨h2, _⟩ | ⟨_, h3, _⟩⟩
        · exact hx' h1
        · exact hno' (hx1.2 h2)
        · exact hc' h3
  · rcases hR with ⟨e', rfl, rfl, hE'⟩ | ⟨o', s', A, B, hAt, hx', hno', hc', rfl, rfl⟩
    · exfalso
      rcases hE' with ⟨h1, _⟩ | ⟨o', s', A, B, hAt, hE'⟩
      · rw [h.nope.1 h1] at ho; cases ho
      · rw [h.here hAt.1] at ho
        injection ho with ho
        subst ho
        rcases hE' with ⟨h1, _⟩ | ⟨_, ⟨h2, _⟩ | ⟨_, h3, _⟩⟩
        · exact hx h1
        · exact h.nope.2 hno h2
        · exact hc h3
    · have ho2 := h.here hAt.1
      rw [ho] at ho2
      injection ho2 with ho2
      subst ho2
      refine ⟨k, o, ded, 0, rfl, rfl, ?_, ?_⟩
      · rw [prs_app]
        exact (List.perm_append_singleton _ _).trans ((h.del hAt.1).cons _)
      · refine new_nd (mdel_nd h.2 k) ?_
        by_cases hkx : k = x
        · subst hkx; exact mget_mdel_self
        · rw [mget_mdel_ne hkx]; exact hno
theorem tup_inj {k k' : ByteArray} {o s o' s' : Nat} {b b' : Bool} (h : (Value.tuple [enV k o s, .bool b].toArray) = .tuple [enV k' o' s', .bool b'].toArray) : k = k' ∧ o = o' ∧ s = s' ∧ b = b' := by
  simp [enV] at h
  obtain ⟨⟨h1, h2, h3⟩, h4⟩ := h
  exact ⟨h1, by omega, by omega, h4⟩
theorem tupe_inj {k k' : ByteArray} {o s o' s' : Nat} {b b' : Int} (h : (Value.tuple [enV k o s, .int .i64 b].toArray) = .tuple [enV k' o' s', .int .i64 b'].toArray) : k = k' ∧ o = o' ∧ s = s' ∧ b = b' := by
  simp [enV] at h
  obtain ⟨⟨h1, h2, h3⟩, h4⟩ := h
  exact ⟨h1, by omega, by omega, h4⟩
theorem FSwapG.form {ded xo xs : Nat} {x : ByteArray} {u : Value} (h : FSwapG M ded k x xo xs u M') : ∃ (k' : ByteArray) (o' s' : Nat) (e : Int), u = .tuple [enV k' o' s', .int .i64 e].toArray := by
  rcases h with ⟨e, rfl, _⟩ | ⟨o, _, _, _, _, rfl, _⟩
  · exact ⟨ByteArray.empty, 0, 0, e, rfl⟩
  · exact ⟨k, o, ded, 0, rfl⟩
theorem RSwapG.form {base xo xs : Nat} {x : ByteArray} {u : Value} (h : RSwapG l base k x xo xs u l') : ∃ (k' : ByteArray) (o' s' : Nat) (e : Int), u = .tuple [enV k' o' s', .int .i64 e].toArray := by
  rcases h with ⟨e, rfl, _⟩ | ⟨o, s, A, B, _, _, _, _, rfl, _⟩
  · exact ⟨ByteArray.empty, 0, 0, e, rfl⟩
  · exact ⟨k, o, base, 0, rfl⟩
theorem FL.ents {ded : Nat} {ks : List ByteArray} {es : List En} (h : FL M l) (hp : ks.Perm (keys M)) (hs : Srts ks) (hes : es.Perm (l.map (rent 2 ded))) (hse : Srts (eks es)) : ks.map (fent M ded) = es := by
  have h1 : (eks es).Perm ks := by
    have h2 : (eks es).Perm (eks (l.map (rent 2 ded))) := hes.map _
    rw [eks_rent] at h2
    exact h2.trans (h.ks.trans hp.symm)
  have h3 := srts_unique hse hs h1
  rw [← h3, eks, List.map_map]
  refine (List.map_congr_left fun x hx => ?_).trans (List.map_id es)
  obtain ⟨y, hy, rfl⟩ := List.mem_map.1 (hes.mem_iff.1 hx)
  show ((rent 2 ded y).1, (mget M (rent 2 ded y).1).getD 0, ded) = rent 2 ded y
  have h4 : mget M y.1 = some y.2.1 := h.sm.2 ⟨y.2.2, hy⟩
  show (y.1, (mget M y.1).getD 0, ded) = (y.1, y.2.1, ded)
  rw [h4]; rfl
end
end Go.Proofs.Ytkoklfagmbaapaa
