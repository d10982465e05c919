/- Space-Saving, plain: what additions keep. -/
import Derived.Test.YtbcfdgnpdaaleaaS5
namespace Go.Proofs.Ytbcfdgnpdaaleaa
open Go.RowKit

def ecnt : Option En → Nat
  | none => 0
  | some x => x.2.1 + x.2.2
def esum (E : List (Option En)) : Nat := (E.map ecnt).sum
theorem esum_set {E : List (Option En)} {n : Nat} {o : Option En} (x : Option En) (h : E[n]? = some o) : esum (E.set n x) + ecnt o = esum E + ecnt x := by
  obtain ⟨A, B, rfl, rfl⟩ := split_at h
  rw [set_split]
  simp only [esum, List.map_append, List.map_cons, List.sum_append, List.sum_cons]
  omega
theorem esum_ge {E : List (Option En)} {b : Nat} (h : ∀ x ∈ E, b ≤ ecnt x) : E.length * b ≤ esum E := by
  induction E with
  | nil => simp
  | cons x E ih =>
    have h1 := h x (List.mem_cons_self ..)
    have h2 := ih fun y hy => h y (List.mem_cons_of_mem _ hy)
    simp only [esum, List.map_cons, List.sum_cons, List.length_cons] at h2 ⊢
    rw [Nat.succ_mul]
    omega
structure HInv (E : List (Option En)) (base total : Nat) (f : ByteArray → Nat) : Prop where
  sum : esum E = total
  ge : ∀ k i o s, Has E k i o s → base ≤ o + s
  fre : ∀ i : Nat, E[i]? = some none → base = 0
  yes : ∀ k i o s, Has E k i o s → o ≤ f k ∧ f k ≤ o + s
  no : ∀ k, Hasnt E k → f k ≤ base
  uq : ∀ k i j o s o' s', Has E k i o s → Has E k j o' s' → i = j
theorem esum0 (m : Nat) : esum (List.replicate m none) = 0 := by
  induction m with
  | zero => rfl
  | succ m ih => rw [List.replicate_succ, esum, List.map_cons, List.sum_cons]; exact (Nat.zero_add _).trans ih
theorem has0 {m : Nat} {k : ByteArray} {i o s : Nat} : ¬ Has (List.replicate m none) k i o s := fun h => by
  unfold Has at h; rw [List.getElem?_replicate] at h; split at h <;> cases h
theorem HInv.new (m : Nat) : HInv (List.replicate m none) 0 0 (fun _ => 0) :=
  ⟨esum0 m, fun k i o s h => absurd h has0, fun _ _ => rfl, fun k i o s h => absurd h has0, fun _ _ => Nat.le_refl _, fun k i j o s o' s' h => absurd h has0⟩
theorem HInv.mbase {E : List (Option En)} {base total : Nat} {f : ByteArray → Nat} (h : HInv E base total f) : E.length * base ≤ total := by
  by_cases hf : ∃ i : Nat, E[i]? = some none
  · obtain ⟨i, hi⟩ := hf
    rw [h.fre i hi]; simp
  · rw [← h.sum]
    refine esum_ge fun x hx => ?_
    obtain ⟨i, hi⟩ := List.mem_iff_getElem?.1 hx
    cases x with
    | none => exact absurd ⟨i, hi⟩ hf
    | some x => exact h.ge x.1 i x.2.1 x.2.2 hi
theorem has_set {E : List (Option En)} {n : Nat} {o0 : Option En} {x : En} {k : ByteArray} {i o s : Nat} (hn : E[n]? = some o0) (h : Has (E.set n (some x)) k i o s) : (i = n ∧ x = (k, o, s)) ∨ (i ≠ n ∧ Has E k i o s) := by
  have hl : n < E.length := (List.getElem?_eq_some_iff.1 hn).1
  unfold Has at *
  by_cases e : n = i
  · subst e
    rw [List.getElem?_set_self hl] at h
    injection h with h; injection h with h
    exact .inl ⟨rfl, h⟩
  · rw [List.getElem?_set_ne e] at h
    exact .inr ⟨fun e' => e e'.symm, h⟩
theorem has_set_self {E : List (Option En)} {n : Nat} {o0 : Option En} {k : ByteArray} {o s : Nat} (hn : E[n]? = some o0) : Has (E.set n (some (k, o, s))) k n o s :=
  List.getElem?_set_self (List.getElem?_eq_some_iff.1 hn).1
theorem has_set_ne {E : List (Option En)} {n i : Nat} {x : Option En} {k : ByteArray} {o s : Nat} (hi : i ≠ n) (h : Has E k i o s) : Has (E.set n x) k i o s := by
  unfold Has at *
  rw [List.getElem?_set_ne (fun e => hi e.symm)]; exact h
def fadd (f : ByteArray → Nat) (k : ByteArray) (w : Nat) (q : ByteArray) : Nat := if q = k then f q + w else f q
theorem fadd_self (f : ByteArray → Nat) (k : ByteArray) (w : Nat) : fadd f k w k = f k + w := if_pos rfl
theorem fadd_ne {f : ByteArray → Nat} {k q : ByteArray} {w : Nat} (h : q ≠ k) : fadd f k w q = f q := if_neg h
theorem HInv.found {E : List (Option En)} {base total i o s w : Nat} {k : ByteArray} {f : ByteArray → Nat} (h : HInv E base total f) (hi : Has E k i o s) : HInv (E.set i (some (k, o + w, s))) base (total + w) (fadd f k w) := by
  have hs := esum_set (some (k, o + w, s)) hi
  refine ⟨?_, fun q j o' s' hj => ?_, fun j hj => ?_, fun q j o' s' hj => ?_, fun q hq => ?_, fun q a b o1 s1 o2 s2 ha hb => ?_⟩
  · simp only [ecnt] at hs; have := h.sum; omega
  · rcases has_set hi hj with ⟨rfl, e⟩ | ⟨_, hj⟩
    · injection e with e1 e; injection e with e2 e3
      have := h.ge k j o s hi
      omega
    · exact h.ge q j o' s' hj
  · have hl : i < E.length := (List.getElem?_eq_some_iff.1 hi).1
    by_cases e : i = j
    · subst e; rw [List.getElem?_set_self hl] at hj; cases hj
    · rw [List.getElem?_set_ne e] at hj; exact h.fre j hj
  · rcases has_set hi hj with ⟨rfl, e⟩ | ⟨hne, hj2⟩
    · injection e with e1 e; injection e with e2 e3
      subst e1; subst e3
      rw [fadd_self]
      have := h.yes k j o s hi
      omega
    · have hqk : q ≠ k := fun e => hne (h.uq q j i o' s' o s hj2 (by rw [e]; exact hi))
      rw [fadd_ne hqk]
      exact h.yes q j o' s' hj2
  · have hqk : q ≠ k := fun e => by subst e; exact hq i (o + w) s (has_set_self hi)
    rw [fadd_ne hqk]
    refine h.no q fun j o' s' hj => ?_
    have hne : j ≠ i := fun e => by
      subst e
      have hj' : E[j]? = some (some (q, o', s')) := hj
      have hi' : E[j]? = some (some (k, o, s)) := hi
      rw [hi'] at hj'
      injection hj' with e; injection e with e; injection e with e _; exact hqk e.symm
    exact hq j o' s' (has_set_ne hne hj)
  · rcases has_set hi ha with ⟨ea, e⟩ | ⟨hna, ha2⟩
    · rcases has_set hi hb with ⟨eb, _⟩ | ⟨_, hb2⟩
      · rw [ea, eb]
      · injection e with e _; rw [ea]; exact h.uq q i b o s o2 s2 (by rw [← e]; exact hi) hb2
    · rcases has_set hi hb with ⟨eb, e⟩ | ⟨_, hb2⟩
      · injection e with e _; rw [eb]; exact h.uq q a i o1 s1 o s ha2 (by rw [← e]; exact hi)
      · exact h.uq q a b o1 s1 o2 s2 ha2 hb2
theorem HInv.new_ {m : Nat} {E E1 : List (Option En)} {base base' total n w : Nat} {k : ByteArray} {f : ByteArray → Nat} (h : HInv E base total f) (hm : E.length = m) (hno : Hasnt E k) (hf : FreeG m E base n E1 base') : HInv (E1.set n (some (k, w, base'))) base' (total + w) (fadd f k w) := by
  have hno1 := hf.hasnt hno
  have hlen : E1.length = E.length := by
    obtain ⟨_, _, ⟨rfl, _⟩ | ⟨_, _, _, _, _, rfl, _⟩⟩ := hf
    · rfl
    · exact List.length_set
  have hn := hf.2.1
  have hs := esum_set (some (k, w, base')) hn
  have hkey : ∀ q, q ≠ k → Hasnt (E1.set n (some (k, w, base'))) q → Hasnt E1 q := fun q hq hh j o s hj => by
    refine hh j o s (has_set_ne (fun e => ?_) hj)
    subst e
    have hj' : E1[j]? = some (some (q, o, s)) := hj
    rw [hn] at hj'; cases hj'
  obtain ⟨hnm, _, hcase⟩ := hf
  have hbb : base ≤ base' := by
    rcases hcase with ⟨_, rfl, _⟩ | ⟨_, k0, o0, s0, hi0, rfl, rfl, _⟩
    · exact Nat.le_refl _
    · exact h.ge k0 n o0 s0 hi0
  have hsub : ∀ q j o s, Has E1 q j o s → Has E q j o s := fun q j o s hj => by
    rcases hcase with ⟨rfl, _, _⟩ | ⟨_, k0, o0, s0, hi0, rfl, _, _⟩
    · exact hj
    · have hjn : j ≠ n := fun e => by
        subst e
        have hj' : (E.set j none)[j]? = some (some (q, o, s)) := hj
        rw [hn] at hj'; cases hj'
      unfold Has at *
      rw [List.getElem?_set_ne (fun e => hjn e.symm)] at hj
      exact hj
  have hge : ∀ q j o s, Has E1 q j o s → base' ≤ o + s := fun q j o s hj => by
    rcases hcase with ⟨rfl, rfl, _⟩ | ⟨_, k0, o0, s0, hi0, _, rfl, hle⟩
    · exact h.ge q j o s hj
    · exact hle j q o s (hsub q j o s hj)
  refine ⟨?_, fun q j o' s' hj => ?_, fun j hj => ?_, fun q j o' s' hj => ?_, fun q hq => ?_, fun q a b o1 s1 o2 s2 ha hb => ?_⟩
  · have hsum := h.sum
    rcases hcase with ⟨rfl, rfl, _⟩ | ⟨_, k0, o0, s0, hi0, rfl, rfl, _⟩
    · have hb0 := h.fre n hn
      simp only [ecnt] at hs
      omega
    · have hs0 := esum_set none hi0
      simp only [ecnt] at hs hs0
      omega
  · rcases has_set hn hj with ⟨rfl, e⟩ | ⟨_, hj⟩
    · injection e with e1 e; injection e with e2 e3; omega
    · exact hge q j o' s' hj
  · have hl : n < E1.length := (List.getElem?_eq_some_iff.1 hn).1
    by_cases e : n = j
    · subst e; rw [List.getElem?_set_self hl] at hj; cases hj
    · rw [List.getElem?_set_ne e] at hj
      rcases hcase with ⟨rfl, rfl, _⟩ | ⟨hall, k0, o0, s0, hi0, rfl, rfl, _⟩
      · exact h.fre j hj
      · rw [List.getElem?_set_ne e] at hj
        have hjl : j < E.length := (List.getElem?_eq_some_iff.1 hj).1
        obtain ⟨x, hx⟩ := hall j (by omega)
        rw [hx] at hj; cases hj
  · rcases has_set hn hj with ⟨rfl, e⟩ | ⟨hne, hj2⟩
    · injection e with e1 e; injection e with e2 e3
      subst e1; subst e2; subst e3
      rw [fadd_self]
      have := h.no k hno
      omega
    · have hqk : q ≠ k := fun e => hno1 j o' s' (by rw [← e]; exact hj2)
      rw [fadd_ne hqk]
      exact h.yes q j o' s' (hsub q j o' s' hj2)
  · have hqk : q ≠ k := fun e => by subst e; exact hq n w base' (has_set_self hn)
    rw [fadd_ne hqk]
    have h1 := hkey q hqk hq
    rcases hcase with ⟨rfl, rfl, _⟩ | ⟨_, k0, o0, s0, hi0, rfl, rfl, _⟩
    · exact h.no q h1
    · by_cases hq0 : q = k0
      · subst hq0; exact (h.yes q n o0 s0 hi0).2
      · have : Hasnt E q := fun j o s hj => by
          have hjn : j ≠ n := fun e => by
            subst e
            have hj' : E[j]? = some (some (q, o, s)) := hj
            have hi' : E[j]? = some (some (k0, o0, s0)) := hi0
            rw [hi'] at hj'
            injection hj' with e; injection e with e; injection e with e _; exact hq0 e.symm
          exact h1 j o s (has_set_ne hjn hj)
        have := h.no q this
        omega
  · rcases has_set hn ha with ⟨ea, e⟩ | ⟨hna, ha2⟩
    · rcases has_set hn hb with ⟨eb, _⟩ | ⟨_, hb2⟩
      · rw [ea, eb]
      · injection e with e _; exact absurd hb2 (by rw [← e]; exact hno1 b o2 s2)
    · rcases has_set hn hb with ⟨eb, e⟩ | ⟨_, hb2⟩
      · injection e with e _; exact absurd ha2 (by rw [← e]; exact hno1 a o1 s1)
      · exact h.uq q a b o1 s1 o2 s2 (hsub _ _ _ _ ha2) (hsub _ _ _ _ hb2)
theorem HInv.add {m : Nat} {E E' : List (Option En)} {base base' total total' w : Nat} {k : ByteArray} {e : Int} {f : ByteArray → Nat} (h : HInv E base total f) (hm : E.length = m) (hA : AddG m E base total k w e E' base' total') :
    (e ≠ 0 ∧ E' = E ∧ base' = base ∧ total' = total) ∨ (e = 0 ∧ total' = total + w ∧ HInv E' base' total' (fadd f k w) ∧ E'.length = m) := by
  rcases hA with ⟨he, rfl, rfl, rfl, _⟩ | ⟨rfl, _, _, _, rfl, ⟨i, o, s, hi, rfl, rfl⟩ | ⟨hno, n, E1, hf, rfl⟩⟩
  · exact .inl ⟨he, rfl, rfl, rfl⟩
  · exact .inr ⟨rfl, rfl, h.found hi, by rw [List.length_set]; exact hm⟩
  · refine .inr ⟨rfl, rfl, h.new_ hm hno hf, ?_⟩
    rw [List.length_set]
    obtain ⟨_, _, ⟨rfl, _⟩ | ⟨_, _, _, _, _, rfl, _⟩⟩ := hf
    · exact hm
    · rw [List.length_set]; exact hm
theorem AddG.ok {m : Nat} {E E' : List (Option En)} {base base' total total' w : Nat} {k : ByteArray} {e : Int} (hA : AddG m E base total k w e E' base' total') (hk : k ≠ ByteArray.empty) (hw : w ≠ 0) (ht : total + w ≤ 9223372036854775808) : e = 0 := by
  rcases hA with ⟨_, _, _, _, h⟩ | ⟨h, _⟩
  · rcases h with ⟨h, _⟩ | ⟨_, h, _⟩ | ⟨_, _, h, _⟩
    · exact absurd h hk
    · exact absurd h hw
    · omega
  · exact h
theorem SvR.len {t m : Nat} {E : List (Option En)} {base total : Nat} {r : Res} (h : SvR t m E base total r) : E.length = m := by
  obtain ⟨L, rfl, hm1, hm2, bR, bX, eV, rR, rX, l, M, T, rfl, hR, hX, hI⟩ := h
  exact hI.len
theorem GetG.form {E : List (Option En)} {k : ByteArray} {v : Value} (h : GetG E k v) : ∃ (k' : ByteArray) (o s : Nat) (is : Bool), v = .tuple [enV k' o s, .bool is].toArray ∧ (is = true → ∃ i, Has E k i o s ∧ k' = k) ∧ (is = false → Hasnt E k ∧ o = 0 ∧ s = 0 ∧ k' = ByteArray.empty) := by
  rcases h with ⟨i, o, s, hi, rfl⟩ | ⟨hno, rfl⟩
  · exact ⟨k, o, s, true, rfl, (fun _ => ⟨i, hi, rfl⟩), (fun e => by cases e)⟩
  · exact ⟨ByteArray.empty, 0, 0, false, rfl, (fun e => by cases e), (fun _ => ⟨hno, rfl, rfl, rfl⟩)⟩
set_option maxHeartbeats 1000000 in
theorem short3_spec (b : Nat) (lv : Value) (L : List Int) (p : Nat) (w : World) (hd : DRd w b lv L p) (hs : Holds w (deck b lv p).foot [deck b lv p] w) :
    Spec Try.prog 10 [.pointer (some ⟨b, 0, .none⟩)] w (deck b lv p).foot fun r H => ∃ (s : ByteArray) (p' : Nat), r = .string s ∧ (2 ≤ s.size ∧ s.size ≤ 3) ∧ H = [deck b lv p'] ∧ p' ≤ L.length := by
  refine enter (n := 14) Try.func10 rfl rfl [(0, _)] rfl ⟨rfl, trivial⟩ hs ?_
  refine w_seq ?_
  refine w_reg ?_
  refine wl_f (f_assign rfl) ?_
  refine wl_end [(0, _)] ⟨rfl, trivial⟩ ?_
  refine w_seq ?_
  refine w_drawk [(0, true), (4, true), (1, false), (2, true), (3, true), (5, false), (6, true), (7, true), (8, false), (9, false), (10, true), (11, true)] ([]) ([_]) mixed (by kernel_rfl) (by kernel_rfl) rfl rfl (List.Perm.refl _) (fun w1_ => ?_)
  refine wk_f rfl (f_move rfl) ?_
  refine wk_f rfl (f_move rfl) ?_
  refine wk_e rfl (e_call1 (deck b lv p) [] rfl Try.func28 (by kernel_rfl) (List.Perm.refl _) (fun w hh hs' => next_spec b lv L p 2 w ⟨hd.1.old1 hh (List.Perm.refl _), hd.2⟩ hs' (by omega))) ?_
  rintro _ _ w1 ⟨_, rfl, y1, p1, rfl, hy1, rfl, hp1⟩
  refine ⟨_, List.Perm.refl _, ?_⟩
  refine wk_f rfl (f_eqv (v' := .int .i64 ((1 + y1 : Nat) : Int)) (f_add rfl rfl (by omega)) (by congr 1)) ?_
  refine wk_f rfl (f_slices (l := 0) (u := 1 + y1) rfl Try.underlying9 rfl ⟨_, rfl⟩ (by omega) (show 1 + y1 ≤ 8 by omega)) ?_
  refine wk_e rfl (e_call1 (deck b lv p1) [] rfl Try.func28 (by kernel_rfl) (List.Perm.refl _) (fun w hh hs' => next_spec b lv L p1 5 w ⟨hd.1.old1 hh (List.Perm.refl _), hd.2.1, hp1⟩ hs' (by omega))) ?_
  rintro _ _ w2 ⟨_, rfl, y2, p2, rfl, hy2, rfl, hp2⟩
  refine ⟨_, List.Perm.refl _, ?_⟩
  refine wk_f rfl (f_eqv (v' := .int .i64 ((97 + y2 : Nat) : Int)) (f_add rfl rfl (by omega)) (by congr 1)) ?_
  refine wk_f rfl (f_convb rfl Try.underlying3 Try.underlying5 (by omega)) ?_
  refine wk_e rfl (e_lit1 (cs := [_]) t23 rfl rfl rfl (by omega)) ?_
  rintro _ _ w1_8 ⟨b1_8, rfl, rfl⟩
  refine ⟨_, List.perm_middle.symm, ?_⟩
  refine wk_e rfl (f_b2s (xs := [97 + y2]) rfl Try.underlying23 Try.underlying5 Try.underlying9 (fun w hh => Rd.held0 hh (i := 0) rfl)).eff ?_
  rintro _ _ _ ⟨rfl, rfl⟩
  refine ⟨_, List.Perm.refl _, ?_⟩
  refine wk_f rfl (f_adds rfl rfl (by rw [str_size, ByteArray.size_extract]; show min (1 + y1) 8 - 0 + 1 ≤ _; omega)) ?_
  refine wk_f rfl (f_assign rfl) ?_
  refine wk_endp [(2, _)] [1] ⟨rfl, trivial⟩ rfl ?_
  refine w_ret ?_
  refine ⟨_, _, fun a ha hh => results_tmps Try.results10 rfl a ha _, List.Sublist.refl _, ?_⟩
  have hsz : ∀ n, n = min (1 + y1) 8 - 0 + 1 → 2 ≤ n ∧ n ≤ 3 := fun n h => by omega
  exact ⟨_, p2, rfl, by rw [ByteArray.size_append, str_size, ByteArray.size_extract]; exact hsz _ rfl, rfl, hp2⟩
theorem ne_of_size {a b : ByteArray} (h : a.size ≠ b.size) : a ≠ b := fun e => h (by rw [e])
end Go.Proofs.Ytbcfdgnpdaaleaa
