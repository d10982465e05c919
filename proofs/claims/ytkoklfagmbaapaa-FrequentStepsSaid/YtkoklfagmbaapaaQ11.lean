/- Misra and Gries, plain: what additions keep. -/
import Derived.Test.YtkoklfagmbaapaaQ10
import Derived.Test.YtkoklfagmbaapaaT2
namespace Go.Proofs.Ytkoklfagmbaapaa
open Go.RowKit

def osum (M : UM) : Nat := (M.map Prod.snd).sum
theorem mget_self {M : UM} {k : ByteArray} {v : Nat} : mget ((k, v) :: M) k = some v := by simp [mget]
theorem mget_mdel_self {M : UM} {k : ByteArray} : mget (mdel M k) k = none := mget_none (mdel_not M k)
theorem osum_del {M : UM} {k : ByteArray} {o : Nat} (hn : (keys M).Nodup) (h : mget M k = some o) : osum M = o + osum (mdel M k) := by
  induction M with
  | nil => simp [mget] at h
  | cons x M ih =>
    obtain ⟨a, v⟩ := x
    simp only [keys, List.map_cons, List.nodup_cons] at hn
    by_cases e : a = k
    · subst e
      rw [mget_self] at h
      injection h with h
      subst h
      rw [mdel_self, mdel_none hn.1]
      simp [osum]
    · rw [mget_cons_ne e] at h
      have e1 : mdel ((a, v) :: M) k = (a, v) :: mdel M k := by simp [mdel, e]
      have := ih hn.2 h
      rw [e1]
      simp only [osum, List.map_cons, List.sum_cons] at this ⊢
      omega
theorem osum_mem {M : UM} {k : ByteArray} {o : Nat} (hn : (keys M).Nodup) (h : mget M k = some o) : o ≤ osum M := by rw [osum_del hn h]; omega
theorem osum_keys {M : UM} (hn : (keys M).Nodup) : ((keys M).map fun k => (mget M k).getD 0).sum = osum M := by
  rw [keys, List.map_map, osum]
  congr 1
  refine List.map_congr_left fun x hx => ?_
  show (mget M x.1).getD 0 = x.2
  rw [mget_some hn (show (x.1, x.2) ∈ M from hx)]
  rfl
theorem over_nd {M : UM} {k : ByteArray} {v : Nat} (h : (keys M).Nodup) : (keys ((k, v) :: mdel M k)).Nodup := List.nodup_cons.2 ⟨mdel_not M k, mdel_nd h k⟩
theorem new_nd {M : UM} {k : ByteArray} {v : Nat} (h : (keys M).Nodup) (hk : mget M k = none) : (keys ((k, v) :: M)).Nodup := List.nodup_cons.2 ⟨keys_none hk, h⟩
theorem dstep_nd {d : Nat} {M : UM} {k : ByteArray} (h : (keys M).Nodup) : (keys (dstep d M k)).Nodup := by
  unfold dstep
  split
  · exact mdel_nd h k
  · exact over_nd h
theorem dfold_nd {d : Nat} : ∀ (ks : List ByteArray) {M : UM}, (keys M).Nodup → (keys (ks.foldl (dstep d) M)).Nodup
  | [], _, h => h
  | k :: ks, _, h => dfold_nd ks (dstep_nd h)
theorem dstep_get {d : Nat} {M : UM} {k : ByteArray} : mget (dstep d M k) k = if (mget M k).getD 0 = d then none else some ((mget M k).getD 0 - d) := by
  unfold dstep
  split
  · exact mget_mdel_self
  · exact mget_self
theorem dfold_get {d : Nat} {q : ByteArray} : ∀ (ks : List ByteArray) (M : UM), ks.Nodup → q ∈ ks → mget (ks.foldl (dstep d) M) q = if (mget M q).getD 0 = d then none else some ((mget M q).getD 0 - d)
  | k :: ks, M, hn, hq => by
    rw [List.nodup_cons] at hn
    rw [List.foldl_cons]
    by_cases e : q = k
    · subst e
      rw [dfold_ne ks _ hn.1, dstep_get]
    · rw [dfold_get ks _ hn.2 ((List.mem_cons.1 hq).resolve_left e), dstep_ne (fun e' => e e'.symm)]
theorem dstep_sum {d o : Nat} {M : UM} {k : ByteArray} (hn : (keys M).Nodup) (h : mget M k = some o) (hd : d ≤ o) : osum (dstep d M k) + d = osum M := by
  rw [osum_del hn h]
  unfold dstep
  rw [h, Option.getD_some]
  split
  · omega
  · simp only [osum, List.map_cons, List.sum_cons]; omega
theorem dfold_sum {d : Nat} : ∀ (ks : List ByteArray) (M : UM), ks.Nodup → (keys M).Nodup → (∀ k ∈ ks, ∃ o, mget M k = some o ∧ d ≤ o) → osum (ks.foldl (dstep d) M) + ks.length * d = osum M
  | [], M, _, _, _ => by simp
  | k :: ks, M, hn, hM, hk => by
    rw [List.nodup_cons] at hn
    obtain ⟨o, ho, hd⟩ := hk k (List.mem_cons_self ..)
    have h1 := dstep_sum hM ho hd
    have h2 := dfold_sum ks (dstep d M k) hn.2 (dstep_nd hM) (fun q hq => by
      obtain ⟨o', ho', hd'⟩ := hk q (List.mem_cons_of_mem _ hq)
      exact ⟨o', by rw [dstep_ne (fun e => hn.1 (by rw [e]; exact hq))]; exact ho', hd'⟩)
    rw [List.foldl_cons, List.length_cons, Nat.succ_mul]
    omega

section
variable {m : Nat} {M M' : UM} {ded ded' total total' v : Nat} {k : ByteArray} {e : Int}
theorem FAddG.sum (h : FAddG m M ded total k v e M' ded' total') (hn : (keys M).Nodup) (he : e = 0) : total' = total + v ∧ osum M' + (m + 1) * ded' = osum M + (m + 1) * ded + v ∧ (keys M').Nodup := by
  rcases h with ⟨he', _⟩ | ⟨_, _, _, _, rfl, ⟨o, ho, rfl, rfl⟩ | ⟨hno, _, rfl, rfl⟩ | ⟨hno, hl, ks, hp, hs, rfl, rfl⟩⟩
  · exact absurd he he'
  · refine ⟨rfl, ?_, over_nd hn⟩
    have := osum_del hn ho
    simp only [osum, List.map_cons, List.sum_cons] at this ⊢
    omega
  · refine ⟨rfl, ?_, new_nd hn hno⟩
    simp only [osum, List.map_cons, List.sum_cons]
    omega
  · have hkn : ks.Nodup := hp.nodup_iff.2 hn
    have hall : ∀ q ∈ ks, ∃ o, mget M q = some o ∧ dmin v M ks ≤ o := fun q hq => by
      obtain ⟨o, ho⟩ := isSome_in (hp.mem_iff.1 hq)
      have := dmin_mem M ks v q hq
      rw [ho, Option.getD_some] at this
      exact ⟨o, ho, this⟩
    have h1 := dfold_sum ks M hkn hn hall
    have hkl : ks.length = m := by rw [hp.length_eq, keys, List.length_map]; exact hl
    rw [hkl] at h1
    have hdl := dmin_le M ks v
    have hno' : mget (ks.foldl (dstep (dmin v M ks)) M) k = none := (dfold_ne ks M (fun h => keys_none hno (hp.mem_iff.1 h))).trans hno
    have hnd' := dfold_nd (d := dmin v M ks) ks hn
    generalize ks.foldl (dstep (dmin v M ks)) M = F at h1 hno' hnd' ⊢
    generalize dmin v M ks = d at h1 hdl hno' ⊢
    have hm : (m + 1) * (ded + d) = (m + 1) * ded + m * d + d := by rw [Nat.mul_add, Nat.succ_mul m d]; omega
    refine ⟨rfl, ?_, ?_⟩
    · rw [hm]
      split
      · simp only [osum, List.map_cons, List.sum_cons] at h1 ⊢
        omega
      · omega
    · split
      · exact new_nd hnd' hno'
      · exact hnd'
theorem FAddG.same (h : FAddG m M ded total k v e M' ded' total') (he : e ≠ 0) : M' = M ∧ ded' = ded ∧ total' = total := by
  rcases h with ⟨_, h1, h2, h3, _⟩ | ⟨he', _⟩
  · exact ⟨h1, h2, h3⟩
  · exact absurd he' he
theorem FAddG.top (h : FAddG m M ded total k v e M' ded' total') (he : e = 0) : total' ≤ 9223372036854775808 := by
  rcases h with ⟨he', _⟩ | ⟨_, _, _, h, rfl, _⟩
  · exact absurd he he'
  · exact h
theorem FAddG.ok (h : FAddG m M ded total k v e M' ded' total') (hk : k ≠ ByteArray.empty) (hv : v ≠ 0) (ht : total + v ≤ 9223372036854775808) : e = 0 := by
  rcases h with ⟨_, _, _, _, ⟨h, _⟩ | ⟨_, h, _⟩ | ⟨_, _, h, _⟩⟩ | ⟨h, _⟩
  · exact absurd h hk
  · exact absurd h hv
  · omega
  · exact h
/-- Sums are within bounds, and nothing counted is 0. -/
structure FInv (m : Nat) (M : UM) (ded total : Nat) : Prop where
  nd : (keys M).Nodup
  sum : osum M + (m + 1) * ded ≤ total
  top : total ≤ 9223372036854775808
  pos : ∀ k o, mget M k = some o → o ≠ 0
theorem FInv.new (m : Nat) : FInv m [] 0 0 := ⟨List.nodup_nil, by simp [osum], by omega, fun k o h => by simp [mget] at h⟩
theorem FInv.ded_le (h : FInv m M ded total) : ded ≤ total := by
  have := h.sum
  rw [Nat.succ_mul] at this
  omega
theorem FInv.ok (h : FInv m M ded total) : FOk M ded total := ⟨h.top, h.ded_le, fun k o ho => by have := osum_mem h.nd ho; have := h.sum; omega⟩
theorem FAddG.pos (h : FAddG m M ded total k v e M' ded' total') (hn : (keys M).Nodup) (hp : ∀ k o, mget M k = some o → o ≠ 0) : ∀ k o, mget M' k = some o → o ≠ 0 := by
  rcases h with ⟨_, rfl, _⟩ | ⟨_, _, hv, _, _, ⟨o, ho, rfl, _⟩ | ⟨hno, _, rfl, _⟩ | ⟨hno, hl, ks, hpm, hs, _, rfl⟩⟩
  · exact hp
  · intro q o' ho'
    by_cases e : k = q
    · subst e; rw [mget_self] at ho'; injection ho' with ho'; omega
    · rw [mget_cons_ne e, mget_mdel_ne e] at ho'; exact hp q o' ho'
  · intro q o' ho'
    by_cases e : k = q
    · subst e; rw [mget_self] at ho'; injection ho' with ho'; omega
    · rw [mget_cons_ne e] at ho'; exact hp q o' ho'
  · have hkn : ks.Nodup := hpm.nodup_iff.2 hn
    have hF : ∀ q o, mget (ks.foldl (dstep (dmin v M ks)) M) q = some o → o ≠ 0 := fun q o hq => by
      by_cases hqk : q ∈ ks
      · rw [dfold_get ks M hkn hqk] at hq
        have := dmin_mem M ks v q hqk
        split at hq
        · cases hq
        · injection hq with hq; omega
      · rw [dfold_ne ks M hqk] at hq; exact hp q o hq
    split
    · intro q o' ho'
      by_cases e : k = q
      · subst e; rw [mget_self] at ho'; injection ho' with ho'; omega
      · rw [mget_cons_ne e] at ho'; exact hF q o' ho'
    · exact hF
theorem FInv.add (h : FInv m M ded total) (hA : FAddG m M ded total k v e M' ded' total') : FInv m M' ded' total' := by
  by_cases he : e = 0
  · obtain ⟨h1, h2, h3⟩ := hA.sum h.nd he
    exact ⟨h3, by have := h.sum; omega, hA.top he, hA.pos h.nd h.pos⟩
  · obtain ⟨rfl, rfl, rfl⟩ := hA.same he
    exact h
theorem FInv.del (h : FInv m M ded total) : FInv m (mdel M k) ded total := by
  refine ⟨mdel_nd h.nd k, ?_, h.top, fun q o hq => ?_⟩
  · have h1 := h.sum
    cases hg : mget M k with
    | none => rw [mdel_none (keys_none hg)]; exact h1
    | some o => rw [osum_del h.nd hg] at h1; omega
  · by_cases e : k = q
    · subst e; rw [mget_mdel_self] at hq; cases hq
    · rw [mget_mdel_ne e] at hq; exact h.pos q o hq
theorem FInv.swap {x : ByteArray} {xo xs : Nat} {u : Value} (h : FInv m M ded total) (hS : FSwapG M ded k x xo xs u M') : FInv m M' ded total := by
  rcases hS with ⟨_, _, rfl, _⟩ | ⟨o, ho, hx, hno, hc, _, rfl⟩
  · exact h
  · have hd := h.del (k := k)
    have hno' : mget (mdel M k) x = none := by
      by_cases e : k = x
      · subst e; exact mget_mdel_self
      · rw [mget_mdel_ne e]; exact hno
    refine ⟨new_nd hd.nd hno', ?_, h.top, fun q o' hq => ?_⟩
    · have h1 := h.sum
      rw [osum_del h.nd ho] at h1
      simp only [osum, List.map_cons, List.sum_cons] at h1 ⊢
      omega
    · by_cases e : x = q
      · subst e; rw [mget_self] at hq; injection hq with hq; omega
      · rw [mget_cons_ne e] at hq; exact hd.pos q o' hq
/-- Only additions: the weight of each key is within its bounds. -/
structure FH (m : Nat) (M : UM) (ded total : Nat) (f : ByteArray → Nat) : Prop where
  inv : FInv m M ded total
  eq : osum M + (m + 1) * ded = total
  yes : ∀ k o, mget M k = some o → o ≤ f k ∧ f k ≤ o + ded
  no : ∀ k, mget M k = none → f k ≤ ded
theorem FH.new (m : Nat) : FH m [] 0 0 (fun _ => 0) := ⟨FInv.new m, by simp [osum], fun k o h => by simp [mget] at h, fun _ _ => Nat.le_refl _⟩
theorem FH.add {f : ByteArray → Nat} (h : FH m M ded total f) (hA : FAddG m M ded total k v e M' ded' total') :
    (e ≠ 0 ∧ M' = M ∧ ded' = ded ∧ total' = total) ∨ (e = 0 ∧ total' = total + v ∧ FH m M' ded' total' (fadd f k v)) := by
  by_cases he : e = 0
  · have hI := h.inv.add hA
    obtain ⟨h1, h2, h3⟩ := hA.sum h.inv.nd he
    have key : ((∀ q o, mget M' q = some o → o ≤ fadd f k v q ∧ fadd f k v q ≤ o + ded') ∧ (∀ q, mget M' q = none → fadd f k v q ≤ ded')) → FH m M' ded' total' (fadd f k v) := fun hy => ⟨hI, by have := h.eq; omega, hy.1, hy.2⟩
    refine .inr ⟨he, h1, key ?_⟩
    clear key
    rcases hA with ⟨he', _⟩ | ⟨_, _, _, _, rfl, ⟨o, ho, rfl, rfl⟩ | ⟨hno, _, rfl, rfl⟩ | ⟨hno, hl, ks, hp, hs, rfl, rfl⟩⟩
    · exact absurd he he'
    · refine ⟨fun q o' hq => ?_, fun q hq => ?_⟩
      · by_cases e : k = q
        · subst e
          rw [mget_self] at hq
          injection hq with hq
          have := h.yes k o ho
          rw [fadd_self]; omega
        · rw [mget_cons_ne e, mget_mdel_ne e] at hq
          rw [fadd_ne (fun e' => e e'.symm)]
          exact h.yes q o' hq
      · by_cases e : k = q
        · subst e; rw [mget_self] at hq; cases hq
        · rw [mget_cons_ne e, mget_mdel_ne e] at hq
          rw [fadd_ne (fun e' => e e'.symm)]
          exact h.no q hq
    · refine ⟨fun q o' hq => ?_, fun q hq => ?_⟩
      · by_cases e : k = q
        · subst e
          rw [mget_self] at hq
          injection hq with hq
          have := h.no k hno
          rw [fadd_self]; omega
        · rw [mget_cons_ne e] at hq
          rw [fadd_ne (fun e' => e e'.symm)]
          exact h.yes q o' hq
      · by_cases e : k = q
        · subst e; rw [mget_self] at hq; cases hq
        · rw [mget_cons_ne e] at hq
          rw [fadd_ne (fun e' => e e'.symm)]
          exact h.no q hq
    · have hkn : ks.Nodup := hp.nodup_iff.2 h.inv.nd
      have hdl := dmin_le M ks v
      have hkk : k ∉ ks := fun hk => keys_none hno (hp.mem_iff.1 hk)
      have hgk : mget (ks.foldl (dstep (dmin v M ks)) M) k = none := (dfold_ne ks M hkk).trans hno
      have hfk := h.no k hno
      have hF1 : ∀ q o', k ≠ q → mget (ks.foldl (dstep (dmin v M ks)) M) q = some o' → o' ≤ f q ∧ f q ≤ o' + (ded + dmin v M ks) := fun q o' hkq hq => by
        by_cases hqk : q ∈ ks
        · obtain ⟨o, ho⟩ := isSome_in (hp.mem_iff.1 hqk)
          rw [dfold_get ks M hkn hqk, ho, Option.getD_some] at hq
          have hd := dmin_mem M ks v q hqk
          rw [ho, Option.getD_some] at hd
          have := h.yes q o ho
          split at hq
          · cases hq
          · injection hq with hq; omega
        · rw [dfold_ne ks M hqk] at hq
          have := h.yes q o' hq
          omega
      have hF2 : ∀ q, k ≠ q → mget (ks.foldl (dstep (dmin v M ks)) M) q = none → f q ≤ ded + dmin v M ks := fun q hkq hq => by
        by_cases hqk : q ∈ ks
        · obtain ⟨o, ho⟩ := isSome_in (hp.mem_iff.1 hqk)
          rw [dfold_get ks M hkn hqk, ho, Option.getD_some] at hq
          have := h.yes q o ho
          split at hq
          · omega
          · cases hq
        · rw [dfold_ne ks M hqk] at hq
          have := h.no q hq
          omega
      generalize ks.foldl (dstep (dmin v M ks)) M = F at hgk hF1 hF2 ⊢
      generalize dmin v M ks = d at hdl hF1 hF2 ⊢
      split
      · refine ⟨fun q o' hq => ?_, fun q hq => ?_⟩
        · by_cases e : k = q
          · subst e
            rw [mget_self] at hq
            injection hq with hq
            rw [fadd_self]; omega
          · rw [mget_cons_ne e] at hq
            rw [fadd_ne (fun e' => e e'.symm)]
            exact hF1 q o' e hq
        · by_cases e : k = q
          · subst e; rw [mget_self] at hq; cases hq
          · rw [mget_cons_ne e] at hq
            rw [fadd_ne (fun e' => e e'.symm)]
            exact hF2 q e hq
      · refine ⟨fun q o' hq => ?_, fun q hq => ?_⟩
        · by_cases e : k = q
          · subst e; rw [hgk] at hq; cases hq
          · rw [fadd_ne (fun e' => e e'.symm)]
            exact hF1 q o' e hq
        · by_cases e : k = q
          · subst e
            rw [fadd_self]; omega
          · rw [fadd_ne (fun e' => e e'.symm)]
            exact hF2 q e hq
  · obtain ⟨h1, h2, h3⟩ := hA.same he
    exact .inl ⟨he, h1, h2, h3⟩
end
theorem fget_form2 (M : UM) (ded : Nat) (k : ByteArray) : ∃ (k' : ByteArray) (o s : Nat) (is : Bool), fget M ded k = .tuple [enV k' o s, .bool is].toArray ∧ (is = true → mget M k = some o ∧ s = ded ∧ k' = k) ∧ (is = false → mget M k = none ∧ o = 0 ∧ s = 0 ∧ k' = ByteArray.empty) := by
  unfold fget
  cases h : mget M k with
  | none => exact ⟨ByteArray.empty, 0, 0, false, rfl, (fun e => by cases e), (fun _ => ⟨rfl, rfl, rfl, rfl⟩)⟩
  | some o => exact ⟨k, o, ded, true, rfl, (fun _ => ⟨rfl, rfl, rfl⟩), (fun e => by cases e)⟩
def isum (l : List En) : Nat := (l.map fun x => x.2.1).sum
theorem isum_fent {M : UM} {ded : Nat} {ks : List ByteArray} (hn : (keys M).Nodup) (hp : ks.Perm (keys M)) : isum (ks.map (fent M ded)) = osum M := by
  rw [← osum_keys hn, isum, List.map_map]
  exact (hp.map _).sum_nat
theorem isum_take {l : List En} {i : Nat} {x : En} (h : l[i]? = some x) : isum (l.take (i + 1)) = isum (l.take i) + x.2.1 := by
  rw [take_snoc' h]; simp [isum]
theorem isum_take_le (l : List En) (i : Nat) : isum (l.take i) ≤ isum l := by
  conv => rhs; rw [← List.take_append_drop i l]
  simp only [isum, List.map_append, List.sum_append]
  omega
end Go.Proofs.Ytkoklfagmbaapaa
