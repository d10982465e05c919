/- An event that was encoded is decoded as it was. -/
import Derived.Test.YthbjjfpikfmmnaaE10
import Derived.Test.YthbjjfpikfmmnaaD13
namespace Go.Proofs.Ythbjjfpikfmmnaa
open Go.RowKit

theorem rd_enc : ∀ (f i x acc : Nat) (rest : List Nat), i + f = 10 → (0 < i → 0 < x) → x * 128 ^ i < 18446744073709551616 → rd (enc f x ++ rest) i acc = (acc + x * 128 ^ i, i + (enc f x).length, 0)
  | 0, i, x, acc, rest, hi, h0, hx => by
    obtain rfl : i = 10 := by omega
    have := h0 (by omega)
    omega
  | f + 1, i, x, acc, rest, hi, h0, hx => by
    by_cases hs : x < 128
    · rw [enc_small _ _ hs]
      have h9 : ¬ (i = 9 ∧ 1 < x % 128) := by rintro ⟨rfl, h⟩; omega
      have hz : ¬ (x = 0 ∧ 0 < i) := fun h => by have := h0 h.2; omega
      simp only [List.singleton_append, rd]
      rw [if_neg (by omega), if_neg h9, if_neg (by omega), if_neg hz, Nat.mod_eq_of_lt hs]
      rfl
    · rw [enc_big _ _ (by omega)]
      have h9 : i ≠ 9 := by
        rintro rfl
        have h1 : 128 * 128 ^ 9 ≤ x * 128 ^ 9 := Nat.mul_le_mul_right _ (by omega)
        omega
      have hdm : x / 128 * 128 ^ (i + 1) + x % 128 * 128 ^ i = x * 128 ^ i := by
        rw [Nat.pow_succ, Nat.mul_comm (128 ^ i) 128, ← Nat.mul_assoc, ← Nat.add_mul]
        congr 1; omega
      have hm : (x % 128 + 128) % 128 = x % 128 := by omega
      simp only [List.cons_append, rd, List.length_cons]
      rw [if_neg (by omega), if_neg (by omega), if_pos (by omega), hm, rd_enc f (i + 1) (x / 128) _ rest (by omega) (fun _ => by omega) (by omega)]
      refine Prod.ext ?_ (Prod.ext ?_ rfl)
      · show acc + x % 128 * 128 ^ i + x / 128 * 128 ^ (i + 1) = _; omega
      · show i + 1 + _ = i + (_ + 1); omega
theorem readL_venc (x : Nat) (rest : List Nat) (hx : x < 18446744073709551616) : readL (venc x ++ rest) = (x, (venc x).length, 0) := by
  have := rd_enc 10 0 x 0 rest rfl (by omega) (by omega)
  unfold readL venc
  rw [this]
  simp

theorem numF_venc {all rest : List Nat} {i x most : Nat} {over : Int} (h : all.drop i = venc x ++ rest) (hx : x < 18446744073709551616) (hm : x ≤ most) : numF all most over (i, 0) = (x, (i + (venc x).length, 0)) := by
  unfold numF
  rw [if_neg (by simp)]
  dsimp only
  rw [h, readL_venc x rest hx, if_neg (by simp), if_neg (by show ¬ most < x; omega)]
theorem drop_add_of {all a rest : List Nat} {i : Nat} (h : all.drop i = a ++ rest) : all.drop (i + a.length) = rest := by
  rw [← List.drop_drop, h, List.drop_left]
theorem textF_enc {all rest : List Nat} {i : Nat} {s : ByteArray} (h : all.drop i = venc s.size ++ (sb s ++ rest)) (hs : s.size ≤ 4096) (hi : i ≤ all.length) : textF all (i, 0) = (s, (i + (venc s.size).length + s.size, 0)) := by
  have hd := drop_add_of h
  have hl := congrArg List.length hd
  rw [List.length_drop, List.length_append, sb_len] at hl
  unfold textF
  dsimp only
  rw [numF_venc h (by omega) hs]
  dsimp only
  rw [if_neg (by simp), if_neg (by omega), hd, ← sb_len, List.take_left, sb_len, str_sb]
theorem tagsF_enc {all : List Nat} : ∀ (tags : List Tg) (rest : List Nat) (i : Nat), all.drop i = tagsB tags ++ rest → (∀ x ∈ tags, tagOk x) → i ≤ all.length → tagsF all tags.length (i, 0) = (tags, (i + (tagsB tags).length, 0))
  | [], _, i, _, _, _ => by simp [tagsF, tagsB]
  | t :: l, rest, i, h, ht, hi => by
    have h1 := ht t (List.mem_cons_self ..)
    unfold tagOk at h1
    have hl := congrArg List.length h
    simp only [tagsB, tagB, List.append_assoc, List.length_drop, List.length_append, sb_len] at h hl
    have e1 := textF_enc h h1.1 hi
    have d1 := drop_add_of h
    have d2 := drop_add_of d1
    rw [sb_len] at d2
    have e2 := textF_enc d2 h1.2 (by omega)
    have d3 := drop_add_of d2
    have d4 := drop_add_of d3
    rw [sb_len] at d4
    have e3 := tagsF_enc l rest _ d4 (fun x hx => ht x (List.mem_cons_of_mem _ hx)) (by omega)
    simp only [List.length_cons, tagsF, e1, e2, e3, tagsB, tagB, List.length_append, sb_len]
    refine Prod.ext rfl (Prod.ext ?_ rfl)
    dsimp only
    omega
theorem decF_enc {tags : List Tg} {t : Int} {wt : Nat} {bl : List Nat} (after : List Nat) (h : encEv tags t wt = (bl, 0)) (hw : wt < 18446744073709551616) : decF (bl ++ after) = ((tags, t.toNat, wt, bl.length), 0) ∧ 0 ≤ t := by
  unfold encEv at h
  split at h
  · simp at h
  split at h
  · simp at h
  rename_i h1 h2
  split at h
  · rename_i h3
    simp only [Prod.mk.injEq, and_true] at h
    subst h
    refine ⟨?_, by omega⟩
    generalize hall : venc t.toNat ++ venc wt ++ venc tags.length ++ tagsB tags ++ after = all
    have hlen := congrArg List.length hall
    simp only [List.length_append] at hlen
    have d0 : all.drop 0 = venc t.toNat ++ (venc wt ++ (venc tags.length ++ (tagsB tags ++ after))) := by rw [← hall]; simp
    have e0 := numF_venc (most := 1099511627776) (over := 1) d0 (by omega) (by omega)
    have d1 := drop_add_of d0
    have e1 := numF_venc (most := 18446744073709551615) (over := 1) d1 (by omega) (by omega)
    have d2 := drop_add_of d1
    have e2 := numF_venc (most := 8) (over := 5) d2 (by omega) (by omega)
    have d3 := drop_add_of d2
    have e3 := tagsF_enc tags after _ d3 h3 (by omega)
    unfold decF
    simp only [e0, e1, e2, e3]
    simp [Nat.add_assoc]
  · simp at h
end Go.Proofs.Ythbjjfpikfmmnaa
