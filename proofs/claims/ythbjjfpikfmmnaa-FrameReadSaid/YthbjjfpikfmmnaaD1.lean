/- The types of the codec, bytes, tags, and what is encoded: plain definitions and small laws. -/
import Derived.Test.YthbjjfpikfmmnaaChecked
import Derived.Test.YthbjjfpikfmmnaaK4
namespace Go.Proofs.Ythbjjfpikfmmnaa
open Go.RowKit

theorem mixed : Try.prog.follows .mixedOrders = true := by kernel_rfl
theorem t22 : SlT Try.prog 22 5 1 1 (.int .u8 0) := .mk' Try.underlying22 (by kernel_rfl) rfl (by decide)
theorem t37 : SlT Try.prog 37 52 2 32 (.agg #[.string ByteArray.empty, .string ByteArray.empty]) := .mk' Try.underlying37 (by kernel_rfl) rfl (by decide)

/-! ### Bytes -/
def bv (l : List Nat) : List Value := l.map fun b : Nat => Value.int .u8 (b : Int)
theorem bv_one (l : List Nat) : ∀ u ∈ bv l, u.oneCell' = true := by
  intro u hu; simp only [bv, List.mem_map] at hu; obtain ⟨b, _, rfl⟩ := hu; rfl
theorem bv_len (l : List Nat) : (bv l).length = l.length := by simp [bv]
theorem bv_app (l k : List Nat) : bv (l ++ k) = bv l ++ bv k := by simp [bv]
theorem bv_get (l : List Nat) (i : Nat) (h : i < l.length) : (bv l)[i]? = some (.int .u8 (l[i] : Int)) := by simp [bv, h]
theorem bv_inj {l k : List Nat} (h : bv l = bv k) : l = k := by
  induction l generalizing k with
  | nil => cases k with
    | nil => rfl
    | cons a k => cases h
  | cons a l ih => cases k with
    | nil => cases h
    | cons b k =>
      simp only [bv, List.map_cons, List.cons.injEq, Value.int.injEq, true_and] at h
      rw [ih h.2, Int.ofNat.inj h.1]
/-- A string's bytes. -/
def sb (s : ByteArray) : List Nat := s.data.toList.map UInt8.toNat
theorem sb_len (s : ByteArray) : (sb s).length = s.size := by
  show _ = s.data.size
  simp [sb]
theorem sb_cells (s : ByteArray) : Lib.strCells s = bv (sb s) := by simp [Lib.strCells, bv, sb]
theorem sb_lt (s : ByteArray) : ∀ b ∈ sb s, b < 256 := by
  intro b hb; simp only [sb, List.mem_map] at hb; obtain ⟨c, _, rfl⟩ := hb; exact c.toNat_lt

/-! ### Numbers -/
/-- The bytes of a number, in rounds. -/
def enc : Nat → Nat → List Nat
  | 0, x => [x]
  | f + 1, x => if x < 128 then [x] else (x % 128 + 128) :: enc f (x / 128)
def venc (x : Nat) : List Nat := enc 10 x
theorem enc_len : ∀ f x, (enc f x).length ≤ f + 1 ∧ 1 ≤ (enc f x).length
  | 0, x => by simp [enc]
  | f + 1, x => by
    unfold enc; split
    · simp
    · have := enc_len f (x / 128); simp; omega
theorem venc_len (x : Nat) : (venc x).length ≤ 11 ∧ 1 ≤ (venc x).length := enc_len 10 x
theorem enc_small (f x : Nat) (h : x < 128) : enc f x = [x] := by cases f <;> simp [enc, h]
theorem enc_big (f x : Nat) (h : 128 ≤ x) : enc (f + 1) x = (x % 128 + 128) :: enc f (x / 128) := by rw [enc, if_neg (by omega)]
theorem enc_lt : ∀ f x, x < 128 ^ f → ∀ b ∈ enc f x, b < 256
  | 0, x, h, b, hb => by simp [enc] at hb; simp at h; omega
  | f + 1, x, h, b, hb => by
    unfold enc at hb; split at hb
    · simp at hb; omega
    · rcases List.mem_cons.1 hb with rfl | hb
      · omega
      · exact enc_lt f _ (by rw [Nat.pow_succ] at h; exact Nat.div_lt_of_lt_mul (by omega)) b hb
theorem or128 (x : Nat) : bits .or .u8 ((x % 256 : Nat) : Int) 128 = ((x % 128 + 128 : Nat) : Int) := by
  have h : ∀ a : Fin 256, bits .or .u8 (a.val : Int) 128 = ((a.val % 128 + 128 : Nat) : Int) := by decide +kernel
  have := h ⟨x % 256, by omega⟩
  simp only at this
  rw [this]; congr 2; omega
theorem shr7 (x : Nat) : ((x : Nat) : Int).fdiv (2 ^ min (Int.toNat 7) IntKind.u64.bits) = ((x / 128 : Nat) : Int) := by
  show ((x : Nat) : Int).fdiv ((128 : Nat) : Int) = _
  rw [Int.fdiv_eq_ediv_of_nonneg _ (by omega)]; rfl
theorem wrapu8 (x : Nat) : IntKind.u8.wrap (x : Int) = ((x % 256 : Nat) : Int) := by rw [IntKind.wrap_u8]; omega

/-! ### Tags and events -/
abbrev Tg := ByteArray × ByteArray
def tcells (l : List Tg) : List Value := l.flatMap fun t => [.string t.1, .string t.2]
theorem tcells_len (l : List Tg) : (tcells l).length = l.length * 2 := by
  induction l with
  | nil => rfl
  | cons t l ih => simp only [tcells, List.flatMap_cons, List.length_append, List.length_cons, List.length_nil] at ih ⊢; omega
theorem tcells_one (l : List Tg) : ∀ u ∈ tcells l, u.oneCell' = true := by
  intro u hu
  simp only [tcells, List.mem_flatMap] at hu
  obtain ⟨t, _, h⟩ := hu
  simp at h
  rcases h with rfl | rfl <;> rfl
theorem tcells_app (l k : List Tg) : tcells (l ++ k) = tcells l ++ tcells k := by simp [tcells]
theorem tcells_get : ∀ (l : List Tg) (i : Nat) (t : Tg), l[i]? = some t → (tcells l)[i * 2]? = some (.string t.1) ∧ (tcells l)[i * 2 + 1]? = some (.string t.2)
  | [], i, t, h => by simp at h
  | s :: l, 0, t, h => by simp at h; subst h; simp [tcells]
  | s :: l, i + 1, t, h => by
    have := tcells_get l i t (by simpa using h)
    rw [show (i + 1) * 2 = (i * 2) + 2 from by omega]
    simpa [tcells] using this
/-- The cells of one tag in a readable slice of tags. -/
theorem tcells_at {w : World} {b off : Nat} {l : List Tg} (hc : ∀ j u, (tcells l)[j]? = some u → w.cell? ⟨b, off + j, .none⟩ = some u) {i : Nat} {t : Tg} (hi : l[i]? = some t) :
    ∀ j u, [Value.string t.1, Value.string t.2][j]? = some u → w.cell? ⟨b, off + i * 2 + j, .none⟩ = some u := by
  obtain ⟨h0, h1⟩ := tcells_get l i t hi
  intro j u hu
  match j, hu with
  | 0, hu => simp at hu; subst hu; exact hc _ _ h0
  | 1, hu => simp at hu; subst hu; have := hc _ _ h1; rwa [show off + (i * 2 + 1) = off + i * 2 + 1 from by omega] at this
  | j + 2, hu => simp at hu

def tagB (t : Tg) : List Nat := venc t.1.size ++ sb t.1 ++ venc t.2.size ++ sb t.2
def tagOk (t : Tg) : Prop := t.1.size ≤ 4096 ∧ t.2.size ≤ 4096
theorem tagB_len (t : Tg) (h : tagOk t) : (tagB t).length ≤ 8214 := by
  have h1 := venc_len t.1.size; have h2 := venc_len t.2.size
  unfold tagOk at h
  simp only [tagB, List.length_append, sb_len]; omega
def tagsB : List Tg → List Nat
  | [] => []
  | t :: l => tagB t ++ tagsB l
theorem tagsB_snoc (l : List Tg) (t : Tg) : tagsB (l ++ [t]) = tagsB l ++ tagB t := by
  induction l with
  | nil => simp [tagsB]
  | cons s l ih => simp [tagsB, ih]
theorem tagsB_len (l : List Tg) (h : ∀ t ∈ l, tagOk t) : (tagsB l).length ≤ l.length * 8214 := by
  induction l with
  | nil => simp [tagsB]
  | cons t l ih =>
    have h1 := tagB_len t (h t (List.mem_cons_self ..))
    have h2 := ih fun s hs => h s (List.mem_cons_of_mem _ hs)
    simp only [tagsB, List.length_append, List.length_cons]; omega
instance (t : Tg) : Decidable (tagOk t) := by unfold tagOk; infer_instance
/-- The bytes and the error of an event. -/
def encEv (tags : List Tg) (t : Int) (wt : Nat) : List Nat × Int :=
  if t < 0 ∨ 1099511627776 < t then ([], 1)
  else if 8 < tags.length then ([], 5)
  else if ∀ x ∈ tags, tagOk x then (venc t.toNat ++ venc wt ++ venc tags.length ++ tagsB tags, 0)
  else ([], 4)
end Go.Proofs.Ythbjjfpikfmmnaa
