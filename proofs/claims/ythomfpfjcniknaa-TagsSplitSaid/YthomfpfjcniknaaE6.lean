/- The laws TagsDiffer and TagsBack: the calls return true. -/
import Derived.Test.YthomfpfjcniknaaD15
import Derived.Test.YthomfpfjcniknaaE5
namespace Go.Proofs.Ythomfpfjcniknaa
open Go.RowKit

theorem f_eqb {P : Program} {n : Nat} {w0 : World} {F0 : Nat → Prop} {m : Env} {H : List Res} {xt yt ty : TypeId} {x y : Operand} {b c : Bool} (hx : ev m x = some (.bool b)) (hy : ev m y = some (.bool c)) (ht : P.underlying xt = some .bool) :
    Flt P n w0 F0 (.binOp .eql xt x y yt) ty m H (.bool (b == c)) := f_bin hx hy guard_bool fun w => run_eql_bool w xt b c ht

/-! ### A key tells its tags -/
theorem keyB_lt (l : List Tg) : ∀ x ∈ keyB l, x < 256 := by
  intro x hx
  simp only [keyB, List.mem_flatMap, List.mem_append, List.mem_singleton] at hx
  obtain ⟨t, _, ((h | h) | h) | h⟩ := hx
  · omega
  · exact sb_lt _ _ h
  · omega
  · exact sb_lt _ _ h
theorem cutS_mk (a : ByteArray) (R : List Nat) (ha : a.size ≤ 255) (hR : ∀ x ∈ R, x < 256) : cutS (str ([a.size % 256] ++ sb a ++ R)) = some (a, str R) := by
  have hl : ∀ x ∈ [a.size % 256] ++ sb a ++ R, x < 256 := by
    intro x hx
    simp only [List.mem_append, List.mem_singleton] at hx
    rcases hx with (h | h) | h
    · omega
    · exact sb_lt _ _ h
    · exact hR x h
  unfold cutS
  rw [sb_str hl]
  simp only [List.cons_append, List.nil_append]
  have e : a.size % 256 = (sb a).length := by rw [sb_len]; omega
  rw [e, if_neg (by simp), List.take_left, List.drop_left, str_sb]
theorem parse_keyB : ∀ (l : List Tg) (f : Nat), (∀ t ∈ l, t.1.size ≤ 255 ∧ t.2.size ≤ 255) → l.length ≤ f → parse f (str (keyB l)) = some l
  | [], f, _, _ => parse_zero rfl
  | t :: l, 0, _, h => by simp at h
  | t :: l, f + 1, h, hf => by
    obtain ⟨h1, h2⟩ := h t (List.mem_cons_self ..)
    have e : keyB (t :: l) = [t.1.size % 256] ++ sb t.1 ++ ([t.2.size % 256] ++ sb t.2 ++ keyB l) := by simp [keyB]
    have hz : (str (keyB (t :: l))).size ≠ 0 := by rw [str_size, e]; simp
    have hR : ∀ x ∈ [t.2.size % 256] ++ sb t.2 ++ keyB l, x < 256 := by
      intro x hx
      simp only [List.mem_append, List.mem_singleton] at hx
      rcases hx with (h | h) | h
      · omega
      · exact sb_lt _ _ h
      · exact keyB_lt l x h
    have c1 := cutS_mk t.1 _ h1 hR
    rw [← e] at c1
    rw [parse_some hz c1 (cutS_mk t.2 _ h2 (keyB_lt l)), parse_keyB l f (fun s hs => h s (List.mem_cons_of_mem _ hs)) (by simpa using hf)]
    rfl
theorem keyOut_zero {l : List Tg} (h : (keyOut l).2 = 0) : sortErr l = 0 ∧ keyOut l = (keyB (isort l), 0) ∧ (keyB (isort l)).length ≤ 255 := by
  unfold keyOut at h ⊢
  split at h
  · rename_i h0; exact absurd h h0
  · rename_i h0
    split at h
    · cases h
    · rename_i h1
      rw [if_neg h0, if_neg h1]
      exact ⟨by simpa using h0, rfl, by omega⟩
theorem isort_sizes {l : List Tg} (h : sortErr l = 0) : ∀ t ∈ isort l, t.1.size ≤ 255 ∧ t.2.size ≤ 255 := fun t ht => by
  obtain ⟨_, _, hv, _⟩ := sortErr_zero h
  have := (validE_zero (hv t ((isort_perm l).mem_iff.1 ht))).2.2
  omega
theorem isort_len {l : List Tg} (h : sortErr l = 0) : (isort l).length ≤ 8 := by
  rw [(isort_perm l).length_eq]; exact (sortErr_zero h).2.1
theorem key_same {a b : List Tg} (ha : (keyOut a).2 = 0) (hb : (keyOut b).2 = 0) : str (keyOut a).1 = str (keyOut b).1 ↔ sortOut a = sortOut b := by
  obtain ⟨a1, a2, _⟩ := keyOut_zero ha
  obtain ⟨b1, b2, _⟩ := keyOut_zero hb
  rw [a2, b2, sortOut, sortOut, if_pos a1, if_pos b1]
  constructor
  · intro h
    have h1 := parse_keyB (isort a) 8 (isort_sizes a1) (isort_len a1)
    have h2 := parse_keyB (isort b) 8 (isort_sizes b1) (isort_len b1)
    rw [h, h2] at h1
    injection h1 with h1
    exact h1.symm
  · intro h; rw [h]

set_option maxHeartbeats 2000000 in
theorem tagsDiffer_spec (D : Option Addr) (dc : Nat) (L : List Int) (O : Option Addr) (oc : Nat) (K : List Int) (w : World)
    (hd : Rd w Nil 1 (.slice D L.length dc) L.length (iv L)) (hL : L.length ≤ 140737488355328) (ho : Rd w Nil 1 (.slice O K.length oc) K.length (iv K)) (hK : K.length ≤ 140737488355328) :
    Spec Try.prog 10 [.slice D L.length dc, .slice O K.length oc] w Nil fun r _ => r = .bool true := by
  have hsz : ∀ l : List Tg, (∀ t ∈ l, good t) → ∀ t ∈ l, t.1.size ≤ 140737488355328 := fun l h t ht => by have := (h t ht).2.2.1; omega
  have hso : ∀ T : List Tg, T.length ≤ 9 → (sortOut T).length ≤ 140737488355328 := fun T hT => by
    unfold sortOut
    split
    · rw [(isort_perm T).length_eq]; omega
    · simp
  refine enter (n := 64) Try.func10 rfl rfl [(0, _), (1, _)] rfl ⟨rfl, rfl, trivial⟩ (Holds.start _ _) ?_
  refine w_seq ?_
  refine w_reg ?_
  refine wl_f (f_assign rfl) ?_
  refine wl_end [(0, _), (1, _)] ⟨rfl, rfl, trivial⟩ ?_
  refine w_seq ?_
  refine w_reg ?_
  refine wl_f (f_move rfl) ?_
  refine wl_e (e_call0 rfl Try.func31 (by kernel_rfl) (fun w hh => list_spec D _ dc L 0 ⟨#[]⟩ ⟨#[]⟩ w (hd.old0 hh) hL)) ?_
  rintro v1 _ w1 ⟨_, rfl, T1, rfl, hT1, hg1, _⟩
  have hg1 := hg1 rfl
  refine wl_f (f_move rfl) ?_
  refine wl_e (e_call0 rfl Try.func31 (by kernel_rfl) (fun w hh => list_spec O _ oc K 0 ⟨#[]⟩ ⟨#[]⟩ w (ho.old0 hh) hK)) ?_
  rintro v2 _ w2 ⟨_, rfl, T2, rfl, hT2, hg2, _⟩
  have hg2 := hg2 rfl
  refine wl_f (f_assign rfl) ?_
  refine wl_f (f_assign rfl) ?_
  refine wl_end [(5, _), (6, _)] ⟨rfl, rfl, trivial⟩ ?_
  refine w_seq ?_
  refine w_reg ?_
  refine wl_f (f_move rfl) ?_
  refine wl_e (e_call0 rfl Try.func32 (by kernel_rfl) (fun w hh => sort_spec v1 T1 w (Rd.held0 hh (i := 1) rfl) (by omega) (hsz T1 hg1))) ?_
  rintro _ _ w3 ⟨_, rfl, u1, rfl, rfl⟩
  refine wl_f (f_move rfl) ?_
  refine wl_f (f_extract rfl rfl) ?_
  refine wl_f (f_extract rfl rfl) ?_
  refine wl_f (f_assign rfl) ?_
  refine wl_f (f_assign rfl) ?_
  refine wl_end [(5, _), (6, _), (7, _), (8, _)] ⟨rfl, rfl, rfl, rfl, trivial⟩ ?_
  refine w_seq ?_
  refine w_reg ?_
  refine wl_f (f_move rfl) ?_
  refine wl_e (e_call0 rfl Try.func32 (by kernel_rfl) (fun w hh => sort_spec v2 T2 w (Rd.held0 hh (i := 1) rfl) (by omega) (hsz T2 hg2))) ?_
  rintro _ _ w4 ⟨_, rfl, u2, rfl, rfl⟩
  refine wl_f (f_move rfl) ?_
  refine wl_f (f_extract rfl rfl) ?_
  refine wl_f (f_extract rfl rfl) ?_
  refine wl_f (f_assign rfl) ?_
  refine wl_f (f_assign rfl) ?_
  refine wl_end [(5, _), (6, _), (7, _), (8, _), (9, _), (10, _)] ⟨rfl, rfl, rfl, rfl, rfl, rfl, trivial⟩ ?_
  refine w_seq ?_
  refine w_reg ?_
  refine wl_f (f_move rfl) ?_
  refine wl_e (e_call0 rfl Try.func34 (by kernel_rfl) (fun w hh => key_spec v1 T1 w (Rd.held0 hh (i := 3) rfl) (by omega) (hsz T1 hg1))) ?_
  rintro _ _ w5 ⟨_, rfl, rfl, rfl⟩
  refine wl_f (f_move rfl) ?_
  refine wl_f (f_extract rfl rfl) ?_
  refine wl_f (f_extract rfl rfl) ?_
  refine wl_f (f_assign rfl) ?_
  refine wl_f (f_assign rfl) ?_
  refine wl_end [(6, _), (7, _), (8, _), (9, _), (10, _), (11, _), (12, _)] ⟨rfl, rfl, rfl, rfl, rfl, rfl, rfl, trivial⟩ ?_
  refine w_seq ?_
  refine w_reg ?_
  refine wl_f (f_move rfl) ?_
  refine wl_e (e_call0 rfl Try.func34 (by kernel_rfl) (fun w hh => key_spec v2 T2 w (Rd.held0 hh (i := 2) rfl) (by omega) (hsz T2 hg2))) ?_
  rintro _ _ w6 ⟨_, rfl, rfl, rfl⟩
  refine wl_f (f_move rfl) ?_
  refine wl_f (f_extract rfl rfl) ?_
  refine wl_f (f_extract rfl rfl) ?_
  refine wl_f (f_assign rfl) ?_
  refine wl_f (f_assign rfl) ?_
  refine wl_end [(7, _), (8, _), (9, _), (10, _), (11, _), (12, _), (13, _), (14, _)] ⟨rfl, rfl, rfl, rfl, rfl, rfl, rfl, rfl, trivial⟩ ?_
  refine w_seq ?_
  refine w_seq ?_
  refine w_reg ?_
  refine wl_f (f_move rfl) ?_
  refine wl_f (f_neq rfl rfl) ?_
  refine wl_f (f_move rfl) ?_
  refine wl_or (j := 2) (c := decide (sortErr T2 ≠ 0)) 2 [(7, _), (9, _), (11, _), (12, _), (13, _), (14, _)] ⟨rfl, rfl, rfl, rfl, rfl, rfl, trivial⟩ rfl rfl rfl rfl rfl (fun hg6_5 => ?_) (fun w6_5 => ?_)
  · skip
    refine wl_gf rfl rfl (f_move rfl) ?_
    refine wl_gf rfl rfl (f_neq rfl rfl) ?_
    exact wl_pend rfl rfl ⟨rfl, rfl, rfl, rfl, rfl, rfl, trivial⟩ (List.Sublist.refl _)
  refine wl_f (f_move rfl) ?_
  refine wl_or (j := 6) (c := decide ((keyOut T1).2 ≠ 0)) 2 [(7, _), (9, _), (11, _), (13, _), (14, _)] ⟨rfl, rfl, rfl, rfl, rfl, trivial⟩ rfl rfl rfl rfl rfl (fun hg6_9 => ?_) (fun w6_9 => ?_)
  · skip
    refine wl_gf rfl rfl (f_move rfl) ?_
    refine wl_gf rfl rfl (f_neq rfl rfl) ?_
    exact wl_pend rfl rfl ⟨rfl, rfl, rfl, rfl, rfl, trivial⟩ (List.Sublist.refl _)
  refine wl_f (f_move rfl) ?_
  refine wl_or (j := 10) (c := decide ((keyOut T2).2 ≠ 0)) 2 [(7, _), (9, _), (11, _), (13, _)] ⟨rfl, rfl, rfl, rfl, trivial⟩ rfl rfl rfl rfl rfl (fun hg6_13 => ?_) (fun w6_13 => ?_)
  · skip
    refine wl_gf rfl rfl (f_move rfl) ?_
    refine wl_gf rfl rfl (f_neq rfl rfl) ?_
    exact wl_pend rfl rfl ⟨rfl, rfl, rfl, rfl, trivial⟩ (List.Sublist.refl _)
  refine wl_end [(7, _), (9, _), (11, _), (13, _), (52, _)] ⟨rfl, rfl, rfl, rfl, rfl, trivial⟩ ?_
  refine w_ifb rfl (fun hc1 => ?_) (fun hc1 => ?_)
  · skip
    refine w_seq ?_
    refine w_reg ?_
    refine wl_e (e_call0 rfl Try.func30 (by kernel_rfl) (fun w hh => awake3_spec w)) ?_
    rintro _ _ w7 ⟨_, rfl, rfl, rfl⟩
    refine wl_f (f_assign rfl) ?_
    refine wl_end [(4, _)] ⟨rfl, trivial⟩ ?_
    refine w_ret ?_
    refine ⟨_, _, fun a ha hh => results_tmps Try.results10 rfl a ha _, List.Sublist.refl _, ?_⟩
    rfl
  · skip
    simp only [Bool.or_eq_true, decide_eq_true_eq, not_or, Classical.not_not] at hc1
    have hks := key_same hc1.1.2 hc1.2
    refine w_skip ?_
    refine w_seq ?_
    refine w_reg ?_
    refine wl_f (f_move rfl) ?_
    refine wl_f (f_move rfl) ?_
    refine wl_f (f_eqls rfl rfl) ?_
    refine wl_f (f_move rfl) ?_
    refine wl_f (f_move rfl) ?_
    refine wl_e (e_call0 rfl Try.func36 (by kernel_rfl) (fun w hh => sameTags_spec _ _ _ _ w (Rd.held0 hh (i := 1) rfl) (Rd.held0 hh (i := 0) rfl) (hso T1 hT1) (hso T2 hT2))) ?_
    rintro _ _ w8 ⟨_, rfl, rfl, rfl⟩
    refine wl_f (f_eqb rfl rfl Try.underlying4) ?_
    refine wl_f (f_move rfl) ?_
    refine wl_and (j := 7) (c := true) 1 [] trivial rfl rfl rfl rfl rfl (fun hg8_9 => ?_) (fun w8_9 => ?_)
    · skip
      refine wl_ge rfl rfl (e_call0 rfl Try.func30 (by kernel_rfl) (fun w hh => awake3_spec w)) ?_
      rintro _ _ w9 ⟨_, rfl, rfl, rfl⟩
      exact wl_pend rfl rfl trivial (List.Sublist.refl _)
    refine wl_f (f_assign rfl) ?_
    refine wl_end [(4, _)] ⟨rfl, trivial⟩ ?_
    refine w_ret ?_
    refine ⟨_, _, fun a ha hh => results_tmps Try.results10 rfl a ha _, List.Sublist.refl _, ?_⟩
    have : decide (str (keyOut T1).1 = str (keyOut T2).1) = decide (sortOut T1 = sortOut T2) := decide_eq_decide.2 hks
    rw [this]
    simp [tup]

theorem keyOut_bad {l : List Tg} (h : (keyOut l).2 ≠ 0) : (keyOut l).1 = [] := by
  unfold keyOut at h ⊢
  split
  · rfl
  · split
    · rfl
    · rename_i h0 h1
      rw [if_neg h0, if_neg h1] at h
      exact absurd rfl h
theorem ins_snd_valid {l : List Tg} (h : sortErr l = 0) : sortErr (isort l) = 0 := by
  obtain ⟨h1, h2, h3, h4⟩ := sortErr_zero h
  have hp := isort_perm l
  rw [sortErr_all (by rw [hp.length_eq]; omega) (fun t ht => h3 t (hp.mem_iff.1 ht)), if_pos (show (names (isort l)).Nodup from (hp.map Prod.fst).nodup_iff.2 h4)]
theorem isort_isort {l : List Tg} (h : sortErr l = 0) : isort (isort l) = isort l := by
  obtain ⟨_, _, _, h4⟩ := sortErr_zero h
  exact (srt_isort (isort_srt l h4) (List.Perm.refl _)).2.symm
theorem split_key {l : List Tg} (h : (keyOut l).2 = 0) : splitOut (str (keyOut l).1) = (isort l, 0) ∧ keyOut (isort l) = keyOut l := by
  obtain ⟨a1, a2, a3⟩ := keyOut_zero h
  have hk : keyOut (isort l) = keyOut l := by
    rw [a2, keyOut, if_neg (by rw [ins_snd_valid a1]; simp), isort_isort a1, if_neg (by omega)]
  refine ⟨?_, hk⟩
  rw [split_some (by rw [a2, str_size]; show ¬ 255 < (keyB (isort l)).length; omega) (out := isort l) (by rw [a2]; exact parse_keyB _ _ (isort_sizes a1) (by have := isort_len a1; omega)), if_neg]
  rw [hk]
  simp [h]

set_option maxHeartbeats 2000000 in
theorem tagsBack_spec (D : Option Addr) (dc : Nat) (L : List Int) (w : World) (hd : Rd w Nil 1 (.slice D L.length dc) L.length (iv L)) (hL : L.length ≤ 140737488355328) :
    Spec Try.prog 12 [.slice D L.length dc] w Nil fun r _ => r = .bool true := by
  have hsz : ∀ l : List Tg, (∀ t ∈ l, good t) → ∀ t ∈ l, t.1.size ≤ 140737488355328 := fun l h t ht => by have := (h t ht).2.2.1; omega
  refine enter (n := 64) Try.func12 rfl rfl [(0, _)] rfl ⟨rfl, trivial⟩ (Holds.start _ _) ?_
  refine w_seq ?_
  refine w_reg ?_
  refine wl_f (f_assign rfl) ?_
  refine wl_end [(0, _)] ⟨rfl, trivial⟩ ?_
  refine w_seq ?_
  refine w_reg ?_
  refine wl_f (f_move rfl) ?_
  refine wl_e (e_call0 rfl Try.func31 (by kernel_rfl) (fun w hh => list_spec D _ dc L 0 ⟨#[]⟩ ⟨#[]⟩ w (hd.old0 hh) hL)) ?_
  rintro v1 _ w1 ⟨_, rfl, T, rfl, hT, hg, _⟩
  have hg := hg rfl
  refine wl_f (f_assign rfl) ?_
  refine wl_end [(3, _)] ⟨rfl, trivial⟩ ?_
  refine w_seq ?_
  refine w_reg ?_
  refine wl_f (f_move rfl) ?_
  refine wl_e (e_call0 rfl Try.func34 (by kernel_rfl) (fun w hh => key_spec v1 T w (Rd.held0 hh (i := 0) rfl) (by omega) (hsz T hg))) ?_
  rintro _ _ w2 ⟨_, rfl, rfl, rfl⟩
  refine wl_f (f_move rfl) ?_
  refine wl_f (f_extract rfl rfl) ?_
  refine wl_f (f_extract rfl rfl) ?_
  refine wl_f (f_assign rfl) ?_
  refine wl_f (f_assign rfl) ?_
  refine wl_end [(3, _), (4, _), (5, _)] ⟨rfl, rfl, rfl, trivial⟩ ?_
  refine w_seq ?_
  refine w_seq ?_
  refine w_reg ?_
  refine wl_f (f_move rfl) ?_
  refine wl_f (f_neq rfl rfl) ?_
  refine wl_end [(3, _), (4, _), (20, _)] ⟨rfl, rfl, rfl, trivial⟩ ?_
  refine w_ifd rfl (fun hc1 => ?_) (fun hc1 => ?_)
  · skip
    refine w_seq ?_
    refine w_reg ?_
    refine wl_f (f_move rfl) ?_
    refine wl_f (f_eqls rfl rfl) ?_
    refine wl_f (f_move rfl) ?_
    refine wl_and (j := 2) (c := true) 1 [] trivial rfl rfl rfl rfl rfl (fun hg4_4 => ?_) (fun w4_4 => ?_)
    · skip
      refine wl_ge rfl rfl (e_call0 rfl Try.func30 (by kernel_rfl) (fun w hh => awake3_spec w)) ?_
      rintro _ _ w3 ⟨_, rfl, rfl, rfl⟩
      exact wl_pend rfl rfl trivial (List.Sublist.refl _)
    refine wl_f (f_assign rfl) ?_
    refine wl_end [(2, _)] ⟨rfl, trivial⟩ ?_
    refine w_ret ?_
    refine ⟨_, _, fun a ha hh => results_tmps Try.results12 rfl a ha _, List.Sublist.refl _, ?_⟩
    rw [keyOut_bad hc1]; rfl
  · skip
    have hk0 : (keyOut T).2 = 0 := Classical.not_not.1 hc1
    obtain ⟨hsp, hki⟩ := split_key hk0
    obtain ⟨hse, hko, hkl⟩ := keyOut_zero hk0
    have hil := isort_len hse
    have hsd : sortOut T = isort T := by rw [sortOut, if_pos hse]
    refine w_skip ?_
    refine w_seq ?_
    refine w_reg ?_
    refine wl_f (f_move rfl) ?_
    refine wl_e (e_call0 rfl Try.func38 (by kernel_rfl) (fun w hh => split_spec (str (keyOut T).1) w (by rw [hko, str_size]; show (keyB (isort T)).length ≤ _; omega))) ?_
    rintro _ _ w4 ⟨_, rfl, u1, rfl, rfl⟩
    rw [hsp]
    refine wl_f (f_move rfl) ?_
    refine wl_f (f_extract rfl rfl) ?_
    refine wl_f (f_extract rfl rfl) ?_
    refine wl_f (f_assign rfl) ?_
    refine wl_f (f_assign rfl) ?_
    refine wl_end [(3, _), (4, _), (6, _), (7, _)] ⟨rfl, rfl, rfl, rfl, trivial⟩ ?_
    refine w_seq ?_
    refine w_reg ?_
    refine wl_f (f_move rfl) ?_
    refine wl_e (e_call0 rfl Try.func32 (by kernel_rfl) (fun w hh => sort_spec v1 T w (Rd.held0 hh (i := 1) rfl) (by omega) (hsz T hg))) ?_
    rintro _ _ w5 ⟨_, rfl, u2, rfl, rfl⟩
    rw [hsd, hse]
    refine wl_f (f_move rfl) ?_
    refine wl_f (f_extract rfl rfl) ?_
    refine wl_f (f_extract rfl rfl) ?_
    refine wl_f (f_assign rfl) ?_
    refine wl_f (f_assign rfl) ?_
    refine wl_end [(4, _), (6, _), (7, _), (8, _), (9, _)] ⟨rfl, rfl, rfl, rfl, rfl, trivial⟩ ?_
    refine w_seq ?_
    refine w_reg ?_
    refine wl_f (f_move rfl) ?_
    refine wl_e (e_call0 rfl Try.func34 (by kernel_rfl) (fun w hh => key_spec u1 (isort T) w (Rd.held0 hh (i := 1) rfl) (by omega) (fun t ht => by have := (isort_sizes hse t ht).1; omega))) ?_
    rintro _ _ w6 ⟨_, rfl, rfl, rfl⟩
    rw [hki]
    refine wl_f (f_move rfl) ?_
    refine wl_f (f_extract rfl rfl) ?_
    refine wl_f (f_extract rfl rfl) ?_
    refine wl_f (f_assign rfl) ?_
    refine wl_f (f_assign rfl) ?_
    refine wl_end [(4, _), (6, _), (7, _), (8, _), (9, _), (10, _), (11, _)] ⟨rfl, rfl, rfl, rfl, rfl, rfl, rfl, trivial⟩ ?_
    refine w_seq ?_
    refine w_reg ?_
    refine wl_f (f_move rfl) ?_
    refine wl_f (f_eql rfl rfl) ?_
    refine wl_f (f_move rfl) ?_
    refine wl_and (j := 2) (c := decide ((0 : Int) = 0)) 2 [(4, _), (6, _), (8, _), (10, _), (11, _)] ⟨rfl, rfl, rfl, rfl, rfl, trivial⟩ rfl rfl rfl rfl rfl (fun hg8_5 => ?_) (fun w8_5 => ?_)
    · skip
      refine wl_gf rfl rfl (f_move rfl) ?_
      refine wl_gf rfl rfl (f_eql rfl rfl) ?_
      exact wl_pend rfl rfl ⟨rfl, rfl, rfl, rfl, rfl, trivial⟩ (List.Sublist.refl _)
    refine wl_f (f_move rfl) ?_
    refine wl_and (j := 6) (c := decide ((keyOut T).2 = 0)) 2 [(4, _), (6, _), (8, _), (10, _)] ⟨rfl, rfl, rfl, rfl, trivial⟩ rfl rfl rfl rfl rfl (fun hg8_9 => ?_) (fun w8_9 => ?_)
    · skip
      refine wl_gf rfl rfl (f_move rfl) ?_
      refine wl_gf rfl rfl (f_eql rfl rfl) ?_
      exact wl_pend rfl rfl ⟨rfl, rfl, rfl, rfl, trivial⟩ (List.Sublist.refl _)
    refine wl_f (f_move rfl) ?_
    refine wl_and (j := 10) (c := decide (isort T = isort T)) 3 [(4, _), (10, _)] ⟨rfl, rfl, trivial⟩ rfl rfl rfl rfl rfl (fun hg8_14 => ?_) (fun w8_14 => ?_)
    · skip
      refine wl_gf rfl rfl (f_move rfl) ?_
      refine wl_gf rfl rfl (f_move rfl) ?_
      refine wl_ge rfl rfl (e_call0 rfl Try.func36 (by kernel_rfl) (fun w hh => sameTags_spec _ _ _ _ w (Rd.held0 hh (i := 1) rfl) (Rd.held0 hh (i := 0) rfl) (by show (isort T).length ≤ _; omega) (by omega))) ?_
      rintro _ _ w7 ⟨_, rfl, rfl, rfl⟩
      exact wl_pend rfl rfl ⟨rfl, rfl, trivial⟩ (List.Sublist.refl _)
    refine wl_f (f_move rfl) ?_
    refine wl_and (j := 15) (c := decide (str (keyOut T).1 = str (keyOut T).1)) 3 [] trivial rfl rfl rfl rfl rfl (fun hg8_19 => ?_) (fun w8_19 => ?_)
    · skip
      refine wl_gf rfl rfl (f_move rfl) ?_
      refine wl_gf rfl rfl (f_move rfl) ?_
      refine wl_gf rfl rfl (f_eqls rfl rfl) ?_
      exact wl_pend rfl rfl trivial (List.Sublist.refl _)
    refine wl_f (f_move rfl) ?_
    refine wl_and (j := 20) (c := true) 1 [] trivial rfl rfl rfl rfl rfl (fun hg8_22 => ?_) (fun w8_22 => ?_)
    · skip
      refine wl_ge rfl rfl (e_call0 rfl Try.func30 (by kernel_rfl) (fun w hh => awake3_spec w)) ?_
      rintro _ _ w8 ⟨_, rfl, rfl, rfl⟩
      exact wl_pend rfl rfl trivial (List.Sublist.refl _)
    refine wl_f (f_assign rfl) ?_
    refine wl_end [(2, _)] ⟨rfl, trivial⟩ ?_
    refine w_ret ?_
    refine ⟨_, _, fun a ha hh => results_tmps Try.results12 rfl a ha _, List.Sublist.refl _, ?_⟩
    rw [hk0]; simp [tup]
end Go.Proofs.Ythomfpfjcniknaa
