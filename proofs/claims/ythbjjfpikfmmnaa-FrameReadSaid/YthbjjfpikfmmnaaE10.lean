/- The law EventDecode: the call returns true. -/
import Derived.Test.YthbjjfpikfmmnaaD23
import Derived.Test.YthbjjfpikfmmnaaD14
import Derived.Test.YthbjjfpikfmmnaaD7
namespace Go.Proofs.Ythbjjfpikfmmnaa
open Go.RowKit

theorem encEv_deck {tags : List Tg} {t : Int} {wt : Nat} (h : smallish tags) (ht : 0 ≤ t ∧ t ≤ 1099511627776) :
    encEv tags t wt = (venc t.toNat ++ venc wt ++ venc tags.length ++ tagsB tags, 0) := by
  unfold encEv
  rw [if_neg (by omega), if_neg (by have := h.1; omega), if_pos (fun x hx => by have := h.2 x hx; exact ⟨by omega, by omega⟩)]
theorem venc_lt {x : Nat} (h : x < 18446744073709551616) : ∀ b ∈ venc x, b < 256 := enc_lt 10 x (by omega)
theorem tagsB_lt : ∀ (tags : List Tg), (∀ x ∈ tags, tagOk x) → ∀ b ∈ tagsB tags, b < 256
  | [], _, b, hb => by simp [tagsB] at hb
  | t :: l, h, b, hb => by
    simp only [tagsB, tagB, List.mem_append] at hb
    have ht := h t (List.mem_cons_self ..)
    unfold tagOk at ht
    rcases hb with ((((hb | hb) | hb) | hb) | hb)
    · exact venc_lt (by omega) b hb
    · exact sb_lt _ b hb
    · exact venc_lt (by omega) b hb
    · exact sb_lt _ b hb
    · exact tagsB_lt l (fun x hx => h x (List.mem_cons_of_mem _ hx)) b hb
theorem encEv_lt (tags : List Tg) (t : Int) (wt : Nat) (hw : wt < 18446744073709551616) : ∀ b ∈ (encEv tags t wt).1, b < 256 := by
  unfold encEv
  split
  · simp
  split
  · simp
  rename_i h1 h2
  split
  · rename_i h3
    intro b hb
    simp only [List.mem_append] at hb
    rcases hb with ((hb | hb) | hb) | hb
    · exact venc_lt (by omega) b hb
    · exact venc_lt hw b hb
    · exact venc_lt (by omega) b hb
    · exact tagsB_lt tags h3 b hb
  · simp
theorem bvs_set (bl : List Nat) (j k : Nat) (hj : j < bl.length) : (bv bl).take (0 + j * 1) ++ [.int .u8 (k : Int)] ++ (bv bl).drop (0 + j * 1 + 1) = bv (bl.set j k) := by
  rw [show 0 + j * 1 = j by omega, List.set_eq_take_append_cons_drop, if_pos hj]
  simp [bv, List.map_take, List.map_drop]
theorem tagsF_len (all : List Nat) : ∀ (n : Nat) (s : Nat × Int), (tagsF all n s).1.length = n
  | 0, _ => rfl
  | n + 1, s => by simp [tagsF, tagsF_len all n]
theorem decF_len (xs : List Nat) : (decF xs).1.1.length ≤ 8 := by
  unfold decF
  dsimp only
  split
  · simp
  · show (tagsF _ _ _).1.length ≤ 8
    rw [tagsF_len]
    exact numF_le _ _ _ _
end Go.Proofs.Ythbjjfpikfmmnaa
