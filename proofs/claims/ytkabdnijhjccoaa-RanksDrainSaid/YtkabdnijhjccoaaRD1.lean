/- The law RanksDrain: the call returns true. -/
import Derived.Test.YtkabdnijhjccoaaRS0
namespace Go.Proofs.Ytkabdnijhjccoaa
open Go.RowKit

def osum (l : Ord) : Nat := (l.map Prod.snd).sum
theorem osum_cons (p : Int × Nat) (l : Ord) : osum (p :: l) = p.2 + osum l := by simp [osum]
theorem osum_ins (l : Ord) (z : Int) (c : Nat) : osum (ins l z c) = osum l + c := by
  induction l with
  | nil => simp [ins, osum]
  | cons p l ih =>
    rw [ins]
    split
    · rw [osum_cons, ih, osum_cons]; omega
    · rw [osum_cons, osum_cons]; simp only []; omega
theorem mem_ins {l : Ord} {z : Int} {c : Nat} {q : Int × Nat} (h : q ∈ ins l z c) : q = (z, c) ∨ q ∈ l := by
  induction l with
  | nil => simp [ins] at h; exact .inl h
  | cons p l ih =>
    rw [ins] at h
    split at h
    · rcases List.mem_cons.1 h with rfl | h
      · exact .inr (List.mem_cons_self ..)
      · rcases ih h with h | h
        · exact .inl h
        · exact .inr (List.mem_cons_of_mem _ h)
    · rcases List.mem_cons.1 h with rfl | h
      · exact .inl rfl
      · exact .inr h
def DInv (L : List Int) (m : Nat) (l : Ord) : Prop := ∀ p ∈ l, 0 ≤ p.1 ∧ p.1 < m ∧ L[p.1.toNat]? = some (p.2 : Int) ∧ p.2 ≤ 65535
theorem DInv.sum {L : List Int} {m : Nat} {l : Ord} (h : DInv L m l) : osum l ≤ l.length * 65535 := by
  induction l with
  | nil => simp [osum]
  | cons p l ih =>
    have h1 := (h p (List.mem_cons_self ..)).2.2.2
    have h2 := ih fun q hq => h q (List.mem_cons_of_mem _ hq)
    rw [osum_cons, List.length_cons, Nat.succ_mul]; omega
theorem drain_ins {L : List Int} {i s : Nat} {l : Ord} (hd : DInv L i l) (hi : i < 60) (hs : s ≤ 65535) : oins 60 l i s = (0, ins l i s) := by
  have h : (i : Int) ∉ ids l := fun h => by
    obtain ⟨p, hp, e⟩ := List.mem_map.1 h
    have := (hd p hp).2.1
    omega
  rw [oins, if_neg (by omega), if_neg h, if_neg (by omega)]
theorem drain_rem (p : Int × Nat) (l : Ord) : orem (p :: l) p.1 = (p.2, 0, l) := by
  have h1 : look (p :: l) p.1 = some p.2 := by rw [look, if_pos rfl]
  have h2 : rem (p :: l) p.1 = l := by rw [rem, if_pos rfl]
  simp only [orem, h1, h2]

set_option maxHeartbeats 4000000 in
theorem ranksDrain_spec (A : Option Addr) (ca : Nat) (L : List Int) (w : World) (hx : Rd w Nil 1 (.slice A L.length ca) L.length (L.map (Value.int .u16))) (hl : L.length ≤ 140737488355328) (hL : ∀ z ∈ L, 0 ≤ z ∧ z ≤ 65535) :
    Spec Try.prog 9 [.slice A L.length ca] w Nil fun r _ => r = .bool true := by
  obtain ⟨A', c', e, hxl, hxc, hxA⟩ := id hx
  injection e with e1 _ e3
  subst e1; subst e3
  refine enter (n := 114) Try.func9 rfl rfl [(0, _)] rfl ⟨rfl, trivial⟩ (Holds.start _ _) ?_
  refine w_seq ?_
  refine w_reg ?_
  refine wl_f (f_assign rfl) ?_
  refine wl_end [(0, _)] ⟨rfl, trivial⟩ ?_
  refine w_seq ?_
  refine w_reg ?_
  refine wl_e (e_call0 rfl Try.func45 (by kernel_rfl) (fun w hh => rknew_ok 60 w (by omega) (by omega))) ?_
  rintro u _ w1 ⟨_, rfl, b, r0, rfl, rfl, hr⟩
  have hr0 := RkO.new hr
  clear hr
  refine wl_f (f_move rfl) ?_
  refine wl_f (f_extract rfl rfl) ?_
  refine wl_f (f_extract rfl rfl) ?_
  refine wl_f (f_assign rfl) ?_
  refine wl_f (f_assign rfl) ?_
  refine wl_end [(0, _), (3, _), (4, _)] ⟨rfl, rfl, rfl, trivial⟩ ?_
  refine w_seq ?_
  refine w_seq ?_
  refine w_reg ?_
  refine wl_f (f_move rfl) ?_
  refine wl_f (f_neq rfl rfl) ?_
  refine wl_f (f_move rfl) ?_
  refine wl_or (j := 2) (c := false) 2 [(0, _), (3, _)] ⟨rfl, rfl, trivial⟩ rfl rfl rfl rfl rfl (fun hg2_5 => ?_) (fun w2_5 => ?_)
  · skip
    refine wl_gf rfl rfl (f_move rfl) ?_
    refine wl_gf rfl rfl (f_eqlnil rfl rfl Try.underlying59) ?_
    exact wl_pend rfl rfl ⟨rfl, rfl, trivial⟩ (List.Sublist.refl _)
  refine wl_end [(0, _), (3, _), (24, _)] ⟨rfl, rfl, rfl, trivial⟩ ?_
  refine w_iff rfl ?_
  refine w_skip ?_
  refine w_seq ?_
  refine w_reg ?_
  refine wl_f (f_move rfl) ?_
  refine wl_f (f_len rfl Try.underlying69) ?_
  refine wl_f (f_min (r := ((min L.length 60 : Nat) : Int)) rfl rfl (by split <;> omega)) ?_
  obtain ⟨N, hN, hN60, hNL⟩ : ∃ N, min L.length 60 = N ∧ N ≤ 60 ∧ N ≤ L.length := ⟨_, rfl, by omega, by omega⟩
  rw [hN]
  clear hN
  refine wl_f (f_assign rfl) ?_
  refine wl_end [(0, _), (3, _), (5, _)] ⟨rfl, rfl, rfl, trivial⟩ ?_
  refine w_seq ?_
  refine w_reg ?_
  refine wl_f (f_assign rfl) ?_
  refine wl_end [(0, _), (3, _), (5, _), (6, _)] ⟨rfl, rfl, rfl, rfl, trivial⟩ ?_
  refine w_seq ?_
  refine w_seq ?_
  refine w_reg ?_
  refine wl_f (f_assign rfl) ?_
  refine wl_end [(0, _), (3, _), (5, _), (6, _), (7, _)] ⟨rfl, rfl, rfl, rfl, rfl, trivial⟩ ?_
  refine w_block ?_
  refine w_loop (fun k m H w' => ∃ (i : Nat) (l : Ord) (r : Res), m = [(0, .slice A L.length ca), (3, .pointer (some ⟨b, 0, .none⟩)), (5, .int .i64 N), (6, .int .u64 (osum l)), (7, .int .i64 i)] ∧ H = [r] ∧ RkO b 60 l r ∧ DInv L i l ∧ l.length = i ∧ k + i = N) N
    ⟨0, [], r0, rfl, rfl, hr0, fun p hp => absurd hp (List.not_mem_nil), rfl, rfl⟩ ?_
  rintro k _ _ w2 ⟨i, l, r, rfl, rfl, hr, hd, hli, hk⟩
  refine w_seq ?_
  refine w_seq ?_
  refine w_reg ?_
  refine wl_f (f_move rfl) ?_
  refine wl_f (f_move rfl) ?_
  refine wl_f (f_lss rfl rfl) ?_
  refine wl_end [(0, _), (3, _), (5, _), (6, _), (7, _), (30, _)] ⟨rfl, rfl, rfl, rfl, rfl, rfl, trivial⟩ ?_
  refine w_ifd rfl (fun hc2 => ?_) (fun hc2 => ?_)
  · skip
    have hiN : i < N := by
      have : (i : Int) < (N : Int) := hc2
      omega
    have hi : i < L.length := by omega
    obtain ⟨s, hsi⟩ : ∃ s, L[i]? = some s := ⟨_, List.getElem?_eq_getElem hi⟩
    have hs := hL s (List.mem_of_getElem? hsi)
    obtain ⟨sn, rfl⟩ : ∃ sn : Nat, s = sn := ⟨s.toNat, by omega⟩
    obtain ⟨b2, off, rfl, _, _, hcell⟩ := hxA.resolve_left (by omega)
    have hsum := hd.sum
    refine w_skip ?_
    refine w_seq ?_
    refine w_block ?_
    refine w_seq ?_
    refine w_seq ?_
    refine w_reg ?_
    refine wl_f (f_move rfl) ?_
    refine wl_f (f_move rfl) ?_
    refine wl_f (f_move rfl) ?_
    refine wl_f (f_move rfl) ?_
    refine wl_f (f_indexAddr 1 (i := i) rfl rfl Try.underlying69 (by kernel_rfl) rfl hi) ?_
    refine wl_f (f_loado (v := .int .u16 sn) rfl Try.underlying58 rfl (hcell _ _ (by simp [hsi])) id) ?_
    refine wl_f (f_convu rfl Try.underlying58 Try.underlying63 (by omega)) ?_
    refine wl_e (e_call1 r [] rfl Try.func46 (by kernel_rfl) (List.Perm.refl _) (fun w hh hs => rkinsert_spec b 60 _ r i sn w hr hs)) ?_
    rw [drain_ins hd (by omega) (by omega)]
    rintro _ _ w3 ⟨_, rfl, rfl, r', rfl, hr'⟩
    refine wl_f (f_neq rfl rfl) ?_
    refine wl_end [(0, _), (3, _), (5, _), (6, _), (7, _), (41, _)] ⟨rfl, rfl, rfl, rfl, rfl, rfl, trivial⟩ ?_
    refine w_ifb rfl (fun h => absurd h (by simp)) (fun _ => ?_)
    refine w_skip ?_
    refine w_reg ?_
    refine wl_f (f_move rfl) ?_
    refine wl_f (f_move rfl) ?_
    refine wl_f (f_move rfl) ?_
    refine wl_f (f_indexAddr 1 (i := i) rfl rfl Try.underlying69 (by kernel_rfl) rfl hi) ?_
    refine wl_f (f_loado (v := .int .u16 sn) rfl Try.underlying58 rfl (hcell _ _ (by simp [hsi])) id) ?_
    refine wl_f (f_convu rfl Try.underlying58 Try.underlying63 (by omega)) ?_
    refine wl_f (f_eqv (v' := .int .u64 ((osum (ins l i sn) : Nat) : Int)) (f_addu rfl rfl (by omega)) (by rw [osum_ins, Int.natCast_add])) ?_
    refine wl_f (f_assign rfl) ?_
    refine wl_end [(0, _), (3, _), (5, _), (6, _), (7, _)] ⟨rfl, rfl, rfl, rfl, rfl, trivial⟩ ?_
    refine w_reg ?_
    refine wl_f (f_move rfl) ?_
    refine wl_f (f_add rfl rfl (by omega)) ?_
    refine wl_f (f_assign rfl) ?_
    refine wl_end [(0, _), (3, _), (5, _), (6, _), (7, _)] ⟨rfl, rfl, rfl, rfl, rfl, trivial⟩ ?_
    refine ⟨k - 1, by omega, i + 1, ins l i sn, r', rfl, rfl, hr', fun p hp => ?_, by rw [ins_len, hli], by omega⟩
    rcases mem_ins hp with rfl | hp
    · exact ⟨by omega, by omega, by simpa using hsi, by omega⟩
    · obtain ⟨h1, h2, h3, h4⟩ := hd p hp
      exact ⟨h1, by omega, h3, h4⟩
  · skip
    obtain rfl : i = N := by
      have : ¬ (i : Int) < (N : Int) := hc2
      omega
    refine w_exit0 ?_
    refine w_seq ?_
    refine w_reg ?_
    refine wl_f (f_assign rfl) ?_
    refine wl_end [(0, _), (3, _), (5, _), (6, _), (8, _)] ⟨rfl, rfl, rfl, rfl, rfl, trivial⟩ ?_
    refine w_seq ?_
    refine w_seq ?_
    refine w_reg ?_
    refine wl_f (f_assign rfl) ?_
    refine wl_end [(0, _), (3, _), (5, _), (6, _), (8, _), (9, _)] ⟨rfl, rfl, rfl, rfl, rfl, rfl, trivial⟩ ?_
    refine w_block ?_
    refine w_loop (fun k m H w' => ∃ (j : Nat) (l : Ord) (r : Res) (last : Nat), m = [(0, .slice A L.length ca), (3, .pointer (some ⟨b, 0, .none⟩)), (5, .int .i64 i), (6, .int .u64 (osum l)), (8, .int .u64 last), (9, .int .i64 j)] ∧ H = [r] ∧ RkO b 60 l r ∧ DInv L i l ∧ l.length + j = i ∧ (∀ p ∈ l, last ≤ p.2) ∧ k + j = i) i
      ⟨0, l, r, 0, rfl, rfl, hr, hd, hli, fun _ _ => Nat.zero_le _, rfl⟩ ?_
    clear hr hd hli
    rintro k _ _ w2 ⟨j, l, r, last, rfl, rfl, hr, hd, hlj, hlast, hk⟩
    refine w_seq ?_
    refine w_seq ?_
    refine w_reg ?_
    refine wl_f (f_move rfl) ?_
    refine wl_f (f_move rfl) ?_
    refine wl_f (f_lss rfl rfl) ?_
    refine wl_end [(0, _), (3, _), (5, _), (6, _), (8, _), (9, _), (51, _)] ⟨rfl, rfl, rfl, rfl, rfl, rfl, rfl, trivial⟩ ?_
    refine w_ifd rfl (fun hc4 => ?_) (fun hc4 => ?_)
    · skip
      have hjN : j < i := by
        have : (j : Int) < (i : Int) := hc4
        omega
      obtain ⟨p, t, rfl⟩ : ∃ p t, l = p :: t := by
        cases l with
        | nil => simp at hlj; omega
        | cons p t => exact ⟨p, t, rfl⟩
      have hdp := hd p (List.mem_cons_self ..)
      have hlp := hlast p (List.mem_cons_self ..)
      obtain ⟨z, cz⟩ := p
      obtain ⟨h0, h1, h2, h3⟩ := hdp
      dsimp only at h0 h1 h2 h3 hlp
      obtain ⟨x, rfl⟩ : ∃ x : Nat, z = x := ⟨z.toNat, by omega⟩
      rw [Int.toNat_natCast] at h2
      have hxL : x < L.length := by omega
      obtain ⟨b2, off, rfl, _, _, hcell⟩ := hxA.resolve_left (by omega)
      have hsum := hd.sum
      rw [osum_cons] at hsum
      have hlt : (((x : Int), cz) :: t).length = t.length + 1 := rfl
      refine w_skip ?_
      refine w_seq ?_
      refine w_block ?_
      refine w_seq ?_
      refine w_reg ?_
      refine wl_f (f_move rfl) ?_
      refine wl_e (e_call1 r [] rfl Try.func51 (by kernel_rfl) (List.Perm.refl _) (fun w hh hs => rkleast_spec b 60 _ r w hr hs)) ?_
      rintro _ _ w3 ⟨_, rfl, rfl, rfl⟩
      refine wl_f (f_move rfl) ?_
      refine wl_f (f_extract rfl rfl) ?_
      refine wl_f (f_extract rfl rfl) ?_
      refine wl_f (f_extract rfl rfl) ?_
      refine wl_f (f_assign rfl) ?_
      refine wl_f (f_assign rfl) ?_
      refine wl_f (f_assign rfl) ?_
      refine wl_end [(0, _), (3, _), (5, _), (6, _), (8, _), (9, _), (10, _), (11, _), (12, _)] ⟨rfl, rfl, rfl, rfl, rfl, rfl, rfl, rfl, rfl, trivial⟩ ?_
      refine w_seq ?_
      refine w_reg ?_
      refine wl_f (f_move rfl) ?_
      refine wl_f (f_move rfl) ?_
      refine wl_e (e_call1 r [] rfl Try.func53 (by kernel_rfl) (List.Perm.refl _) (fun w hh hs => rkremove_spec b 60 _ r x w hr hs)) ?_
      rw [drain_rem ((x : Int), cz) t]
      rintro _ _ w4 ⟨_, rfl, rfl, r', rfl, hr'⟩
      refine wl_f (f_move rfl) ?_
      refine wl_f (f_extract rfl rfl) ?_
      refine wl_f (f_extract rfl rfl) ?_
      refine wl_f (f_assign rfl) ?_
      refine wl_f (f_assign rfl) ?_
      refine wl_end [(0, _), (3, _), (5, _), (6, _), (8, _), (9, _), (10, _), (11, _), (12, _), (13, _), (14, _)] ⟨rfl, rfl, rfl, rfl, rfl, rfl, rfl, rfl, rfl, rfl, rfl, trivial⟩ ?_
      refine w_seq ?_
      refine w_seq ?_
      refine w_reg ?_
      refine wl_f (f_move rfl) ?_
      refine wl_f (f_not rfl rfl) ?_
      refine wl_f (f_move rfl) ?_
      refine wl_or (j := 2) (c := decide ((0 : Int) ≠ 0)) 2 [(0, _), (3, _), (5, _), (6, _), (8, _), (9, _), (10, _), (11, _), (13, _)] ⟨rfl, rfl, rfl, rfl, rfl, rfl, rfl, rfl, rfl, trivial⟩ rfl rfl rfl rfl rfl (fun hg18_5 => ?_) (fun w18_5 => ?_)
      · skip
        refine wl_gf rfl rfl (f_move rfl) ?_
        refine wl_gf rfl rfl (f_neq rfl rfl) ?_
        exact wl_pend rfl rfl ⟨rfl, rfl, rfl, rfl, rfl, rfl, rfl, rfl, rfl, trivial⟩ (List.Sublist.refl _)
      refine wl_f (f_move rfl) ?_
      refine wl_or (j := 6) (c := decide ((cz : Int) ≠ cz)) 3 [(0, _), (3, _), (5, _), (6, _), (8, _), (9, _), (10, _), (11, _)] ⟨rfl, rfl, rfl, rfl, rfl, rfl, rfl, rfl, trivial⟩ rfl rfl rfl rfl rfl (fun hg18_10 => ?_) (fun w18_10 => ?_)
      · skip
        refine wl_gf rfl rfl (f_move rfl) ?_
        refine wl_gf rfl rfl (f_move rfl) ?_
        refine wl_gf rfl rfl (f_neq rfl rfl) ?_
        exact wl_pend rfl rfl ⟨rfl, rfl, rfl, rfl, rfl, rfl, rfl, rfl, trivial⟩ (List.Sublist.refl _)
      refine wl_f (f_move rfl) ?_
      refine wl_or (j := 11) (c := decide ((cz : Int) < last)) 3 [(0, _), (3, _), (5, _), (6, _), (9, _), (10, _), (11, _)] ⟨rfl, rfl, rfl, rfl, rfl, rfl, rfl, trivial⟩ rfl rfl rfl rfl rfl (fun hg18_15 => ?_) (fun w18_15 => ?_)
      · skip
        refine wl_gf rfl rfl (f_move rfl) ?_
        refine wl_gf rfl rfl (f_move rfl) ?_
        refine wl_gf rfl rfl (f_lss rfl rfl) ?_
        exact wl_pend rfl rfl ⟨rfl, rfl, rfl, rfl, rfl, rfl, rfl, trivial⟩ (List.Sublist.refl _)
      refine wl_f (f_move rfl) ?_
      refine wl_or (j := 16) (c := decide ((x : Int) < 0)) 2 [(0, _), (3, _), (5, _), (6, _), (9, _), (10, _), (11, _)] ⟨rfl, rfl, rfl, rfl, rfl, rfl, rfl, trivial⟩ rfl rfl rfl rfl rfl (fun hg18_19 => ?_) (fun w18_19 => ?_)
      · skip
        refine wl_gf rfl rfl (f_move rfl) ?_
        refine wl_gf rfl rfl (f_lss rfl rfl) ?_
        exact wl_pend rfl rfl ⟨rfl, rfl, rfl, rfl, rfl, rfl, rfl, trivial⟩ (List.Sublist.refl _)
      refine wl_f (f_move rfl) ?_
      refine wl_or (j := 20) (c := decide ((i : Int) ≤ x)) 3 [(0, _), (3, _), (5, _), (6, _), (9, _), (10, _), (11, _)] ⟨rfl, rfl, rfl, rfl, rfl, rfl, rfl, trivial⟩ rfl rfl rfl rfl rfl (fun hg18_24 => ?_) (fun w18_24 => ?_)
      · skip
        refine wl_gf rfl rfl (f_move rfl) ?_
        refine wl_gf rfl rfl (f_move rfl) ?_
        refine wl_gf rfl rfl (f_geq rfl rfl) ?_
        exact wl_pend rfl rfl ⟨rfl, rfl, rfl, rfl, rfl, rfl, rfl, trivial⟩ (List.Sublist.refl _)
      refine wl_f (f_move rfl) ?_
      refine wl_or (j := 25) (c := decide ((cz : Int) ≠ cz)) 7 [(0, _), (3, _), (5, _), (6, _), (9, _), (11, _)] ⟨rfl, rfl, rfl, rfl, rfl, rfl, trivial⟩ rfl rfl rfl rfl rfl (fun hg18_33 => ?_) (fun w18_33 => ?_)
      · skip
        refine wl_gf rfl rfl (f_move rfl) ?_
        refine wl_gf rfl rfl (f_move rfl) ?_
        refine wl_gf rfl rfl (f_move rfl) ?_
        refine wl_gf rfl rfl (f_indexAddr 1 (i := x) rfl rfl Try.underlying69 (by kernel_rfl) rfl hxL) ?_
        refine wl_gf rfl rfl (f_loado (v := .int .u16 cz) rfl Try.underlying58 rfl (hcell _ _ (by simp [h2])) id) ?_
        refine wl_gf rfl rfl (f_convu rfl Try.underlying58 Try.underlying63 (by omega)) ?_
        refine wl_gf rfl rfl (f_neq rfl rfl) ?_
        exact wl_pend rfl rfl ⟨rfl, rfl, rfl, rfl, rfl, rfl, trivial⟩ (List.Sublist.refl _)
      refine wl_end [(0, _), (3, _), (5, _), (6, _), (9, _), (11, _), (99, _)] ⟨rfl, rfl, rfl, rfl, rfl, rfl, rfl, trivial⟩ ?_
      refine w_ifb rfl (fun h => absurd h (by
        rw [decide_eq_false (show ¬ (cz : Int) < last by omega), decide_eq_false (show ¬ (x : Int) < 0 by omega), decide_eq_false (show ¬ (i : Int) ≤ x by omega)]
        simp)) (fun _ => ?_)
      refine w_skip ?_
      refine w_seq ?_
      refine w_reg ?_
      refine wl_f (f_move rfl) ?_
      refine wl_f (f_assign rfl) ?_
      refine wl_end [(0, _), (3, _), (5, _), (6, _), (8, _), (9, _), (11, _)] ⟨rfl, rfl, rfl, rfl, rfl, rfl, rfl, trivial⟩ ?_
      refine w_reg ?_
      refine wl_f (f_move rfl) ?_
      refine wl_f (f_move rfl) ?_
      refine wl_f (f_eqv (v' := .int .u64 ((osum t : Nat) : Int)) (f_subu rfl rfl (by rw [osum_cons]; dsimp only; omega)) (by rw [osum_cons]; dsimp only; congr 1; omega)) ?_
      refine wl_f (f_assign rfl) ?_
      refine wl_end [(0, _), (3, _), (5, _), (6, _), (8, _), (9, _)] ⟨rfl, rfl, rfl, rfl, rfl, rfl, trivial⟩ ?_
      refine w_reg ?_
      refine wl_f (f_move rfl) ?_
      refine wl_f (f_add rfl rfl (by omega)) ?_
      refine wl_f (f_assign rfl) ?_
      refine wl_end [(0, _), (3, _), (5, _), (6, _), (8, _), (9, _)] ⟨rfl, rfl, rfl, rfl, rfl, rfl, trivial⟩ ?_
      refine ⟨k - 1, by omega, j + 1, t, r', cz, rfl, rfl, hr', fun q hq => hd q (List.mem_cons_of_mem _ hq), by omega, fun q hq => ?_, by omega⟩
      have := hr.inv.asc
      rw [List.map_cons, List.pairwise_cons] at this
      exact this.1 _ (List.mem_map_of_mem hq)
    · skip
      obtain rfl : l = [] := by
        have : ¬ (j : Int) < (i : Int) := hc4
        exact List.length_eq_zero_iff.1 (by omega)
      refine w_exit0 ?_
      refine w_seq ?_
      refine w_reg ?_
      refine wl_f (f_move rfl) ?_
      refine wl_f (f_eql rfl rfl) ?_
      refine wl_f (f_move rfl) ?_
      refine wl_and (j := 2) (c := true) 3 [] trivial rfl rfl rfl rfl rfl (fun hg22_6 => ?_) (fun w22_6 => ?_)
      · skip
        refine wl_gf rfl rfl (f_move rfl) ?_
        refine wl_ge rfl rfl (e_call1 r [] rfl Try.func52 (by kernel_rfl) (List.Perm.refl _) (fun w hh hs => rklen_spec b 60 _ r w hr hs)) ?_
        rintro _ _ w9 ⟨_, rfl, rfl, rfl⟩
        refine wl_gf rfl rfl (f_eql rfl rfl) ?_
        exact wl_pend rfl rfl trivial (List.Sublist.refl _)
      refine wl_f (f_move rfl) ?_
      refine wl_and (j := 7) (c := true) 1 [] trivial rfl rfl rfl rfl rfl (fun hg22_9 => ?_) (fun w22_9 => ?_)
      · skip
        refine wl_ge rfl rfl (e_call0 rfl Try.func49 (by kernel_rfl) (fun w hh => awake12_spec w)) ?_
        rintro _ _ w15 ⟨_, rfl, rfl⟩
        exact wl_pend rfl rfl trivial (List.sublist_append_right _ _)
      refine wl_f (f_assign rfl) ?_
      refine wl_end [(2, _)] ⟨rfl, trivial⟩ ?_
      refine w_ret ?_
      refine ⟨_, _, fun a ha hh => results_tmps Try.results9 rfl a ha _, List.Sublist.refl _, ?_⟩
      rfl
end Go.Proofs.Ytkabdnijhjccoaa
