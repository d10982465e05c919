/- The law TableTaken: the call returns true. -/
import Derived.Test.YtmagdjlcckgkpaaGreatWLx
import Derived.Test.YtmagdjlcckgkpaaGreatMA11
namespace Go.Proofs.YtmagdjlcckgkpaaGreat
open Go.RowKit

/-- What a table tracks. -/
def InS (x : En) : TS → Prop
  | .sv E _ _ _ => ∃ i : Nat, E[i]? = some (some x)
  | .fr M ded _ => mget M x.1 = some x.2.1 ∧ x.2.2 = ded
/-- Keys differ. -/
def UqS (m : Nat) : TS → Prop
  | .sv E l _ _ => SFact m E l
  | .fr M _ _ => (keys M).Nodup
theorem TbS.uq {t m : Nat} {S : TS} {r : Res} (h : TbS t m S r) : UqS m S := by
  cases S with
  | sv E l base total => obtain ⟨b, r', rfl, hr⟩ := h; exact hr.fact
  | fr M ded total =>
    obtain ⟨b, r', rfl, _, _, _, _, _, _, hX⟩ := h
    exact hX.nd
section
variable {m : Nat} {S S' : TS} {es es' : List En} {k : ByteArray}
theorem eks_fent (M : UM) (ded : Nat) (ks : List ByteArray) : eks (ks.map (fent M ded)) = ks := by
  rw [eks, List.map_map]
  exact (List.map_congr_left fun x _ => rfl).trans (List.map_id ks)
theorem EntS.srt (h : EntS es S) : Srts (eks es) := by
  cases S with
  | sv E l base total => exact h.2
  | fr M ded total =>
    obtain ⟨ks, _, hs, rfl⟩ := h
    rw [eks_fent]
    exact hs
theorem EntS.mem (h : EntS es S) {x : En} : x ∈ es ↔ InS x S := by
  cases S with
  | sv E l base total =>
    rw [h.1.mem_iff]
    simp only [List.mem_filterMap, id]
    constructor
    · rintro ⟨o, ho, rfl⟩
      exact List.mem_iff_getElem?.1 ho
    · rintro ⟨i, hi⟩
      exact ⟨some x, List.mem_of_getElem? hi, rfl⟩
  | fr M ded total =>
    obtain ⟨ks, hp, hs, rfl⟩ := h
    rw [List.mem_map]
    constructor
    · rintro ⟨q, hq, rfl⟩
      obtain ⟨o, ho⟩ := isSome_in (hp.mem_iff.1 hq)
      refine ⟨?_, rfl⟩
      show mget M q = some ((mget M q).getD 0)
      rw [ho]; rfl
    · rintro ⟨h1, h2⟩
      obtain ⟨q, o, s⟩ := x
      have h1 : mget M q = some o := h1
      have h2 : s = ded := h2
      subst h2
      refine ⟨q, hp.mem_iff.2 (mget_key h1), ?_⟩
      rw [fent, h1]; rfl
theorem TakeS.inS {v : Value} (hq : UqS m S) (h : TakeS k v S S') {x : En} : InS x S' ↔ InS x S ∧ x.1 ≠ k := by
  cases S with
  | sv E l base total =>
    cases S' with
    | fr _ _ _ => cases h
    | sv E' l' base' total' =>
      obtain ⟨_, _, ⟨i, o, s, hi, rfl, _⟩ | ⟨hn, rfl, _⟩⟩ := h
      · have hil : i < E.length := (List.getElem?_eq_some_iff.1 hi).1
        constructor
        · rintro ⟨j, hj⟩
          rw [List.getElem?_set] at hj
          split at hj
          · simp at hj
          · rename_i hne
            refine ⟨⟨j, hj⟩, fun e => hne ?_⟩
            exact (hq.uq i j _ _ hi hj e).symm
        · rintro ⟨⟨j, hj⟩, hne⟩
          refine ⟨j, ?_⟩
          rw [List.getElem?_set, if_neg]
          · exact hj
          · intro e
            subst e
            have hi' : E[i]? = some (some (k, o, s)) := hi
            rw [hi'] at hj
            injection hj with hj
            injection hj with hj
            exact hne (by rw [← hj])
      · refine ⟨fun ⟨j, hj⟩ => ⟨⟨j, hj⟩, fun e => ?_⟩, fun h => h.1⟩
        obtain ⟨q, o, s⟩ := x
        have e : q = k := e
        subst e
        exact hn j o s hj
  | fr M ded total =>
    cases S' with
    | sv _ _ _ _ => cases h
    | fr M' ded' total' =>
      obtain ⟨rfl, rfl, rfl⟩ := h
      constructor
      · rintro ⟨h1, h2⟩
        by_cases e : k = x.1
        · rw [e, mget_mdel_self] at h1; cases h1
        · rw [mget_mdel_ne e] at h1
          exact ⟨⟨h1, h2⟩, fun e' => e e'.symm⟩
      · rintro ⟨⟨h1, h2⟩, h3⟩
        exact ⟨by rw [mget_mdel_ne (fun e => h3 e.symm)]; exact h1, h2⟩
theorem nodup_of {es : List En} (h : Srts (eks es)) : es.Nodup := List.Pairwise.of_map Prod.fst (fun a b hab e => hab (by rw [e])) (h.imp fun h => nlt_ne h)
theorem taken_eq {v : Value} (hq : UqS m S) (hT : TakeS k v S S') (h : EntS es S) (h' : EntS es' S') : es' = es.filter fun x => !decide (x.1 = k) := by
  have hs : Srts (eks (es.filter fun x => !decide (x.1 = k))) := h.srt.sublist (List.filter_sublist.map _)
  refine ents_eq h'.srt hs ((List.perm_ext_iff_of_nodup (nodup_of h'.srt) (nodup_of hs)).2 fun x => ?_)
  rw [h'.mem, hT.inS hq, List.mem_filter, h.mem]
  simp
theorem get_in {k' : ByteArray} {o s : Nat} {is : Bool} (h : EntS es S) (hg : GetS k k' o s is S) : (is = true → k' = k ∧ (k, o, s) ∈ es) ∧ (is = false → k ∉ eks es) := by
  cases S with
  | sv E l base total =>
    refine ⟨fun hi => ?_, fun hi hk => ?_⟩
    · obtain ⟨i, h1, h2⟩ := hg.1 hi
      exact ⟨h2, h.mem.2 ⟨i, h1⟩⟩
    · obtain ⟨x, hx, rfl⟩ := List.mem_map.1 hk
      obtain ⟨i, hi'⟩ := h.mem.1 hx
      exact (hg.2 hi).1 i x.2.1 x.2.2 hi'
  | fr M ded total =>
    refine ⟨fun hi => ?_, fun hi hk => ?_⟩
    · obtain ⟨h1, h2, h3⟩ := hg.1 hi
      exact ⟨h3, h.mem.2 ⟨h1, h2⟩⟩
    · obtain ⟨x, hx, rfl⟩ := List.mem_map.1 hk
      have h1 := (h.mem.1 hx).1
      rw [(hg.2 hi).1] at h1
      cases h1
theorem TakeS.same {v : Value} (h : TakeS k v S S') : S'.base = S.base ∧ S'.total = S.total := by
  cases S <;> cases S' <;> first | exact ⟨h.1, h.2.1⟩ | cases h
theorem TbS.room {t m : Nat} {S : TS} {r : Res} {es : List En} (h : TbS t m S r) (he : EntS es S) : es.length ≤ m := by
  cases S with
  | sv E l base total =>
    obtain ⟨b, r', rfl, hr⟩ := h
    have h1 := hr.fact.len
    have h2 := he.1.length_eq
    have h3 : (E.filterMap id).length ≤ E.length := List.length_filterMap_le ..
    omega
  | fr M ded total =>
    obtain ⟨b, r', rfl, _, _, _, _, _, _, hX⟩ := h
    obtain ⟨ks, hp, _, rfl⟩ := he
    rw [List.length_map, hp.length_eq, keys, List.length_map]
    exact hX.len
end
set_option maxHeartbeats 8000000 in
theorem tableTaken_spec (sv : Bool) (z : Nat) (A1 : Option Addr) (c1 : Nat) (L1 : List Int) (A2 : Option Addr) (c2 : Nat) (L2 : List Int) (w : World) (hz : z < 256)
    (h1 : Rd w Nil 1 (.slice A1 L1.length c1) L1.length (iv L1)) (hL1 : L1.length ≤ 140737488355328) (h2 : Rd w Nil 1 (.slice A2 L2.length c2) L2.length (L2.map (Value.int .u8))) (hL2 : L2.length ≤ 140737488355328) (hb2 : ∀ x ∈ L2, 0 ≤ x ∧ x ≤ 255) :
    Spec Tryz.prog 4 [.bool sv, .int .u8 z, .slice A1 L1.length c1, .slice A2 L2.length c2] w Nil fun r _ => r = .bool true := by
  obtain ⟨A', c', e, hxl, hxc, hxA⟩ := id h2
  injection e with e1 _ e3
  subst e1; subst e3
  refine enter (n := 120) Tryz.func4 rfl rfl [(0, _), (1, _), (2, _), (3, _)] rfl ⟨rfl, rfl, rfl, rfl, trivial⟩ (Holds.start _ _) ?_
  refine w_seq ?_
  refine w_reg ?_
  refine wl_f (f_assign rfl) ?_
  refine wl_end [(0, _), (1, _), (2, _), (3, _)] ⟨rfl, rfl, rfl, rfl, trivial⟩ ?_
  refine w_seq ?_
  refine w_reg ?_
  refine wl_f (f_move rfl) ?_
  refine wl_f (f_convi rfl Tryz.underlying5 Tryz.underlying3 (by omega)) ?_
  refine wl_f (f_rem rfl rfl (by omega)) ?_
  refine wl_f (f_eqv (v' := .int .i64 ((1 + z % 8 : Nat) : Int)) (f_add rfl rfl (by omega)) (by congr 1)) ?_
  obtain ⟨m, hm, hm1, hm8⟩ : ∃ m, 1 + z % 8 = m ∧ 1 ≤ m ∧ m ≤ 8 := ⟨_, rfl, by omega, by omega⟩
  rw [hm]
  refine wl_f (f_assign rfl) ?_
  refine wl_f (f_assign rfl) ?_
  refine wl_end [(0, _), (2, _), (3, _), (9, _), (10, _)] ⟨rfl, rfl, rfl, rfl, rfl, trivial⟩ ?_
  refine w_seq ?_
  refine w_seq ?_
  refine w_reg ?_
  refine wl_f (f_move rfl) ?_
  refine wl_end [(2, _), (3, _), (9, _), (10, _), (29, _)] ⟨rfl, rfl, rfl, rfl, rfl, trivial⟩ ?_
  refine w_post (fun m' H w' => ∃ mode : Nat, m' = [(2, .slice A1 L1.length c1), (3, .slice A2 L2.length c2), (9, .int .i64 mode), (10, .int .i64 m)] ∧ H = [] ∧ (mode = 1 ∨ mode = 2)) ?_ ?_
  · skip
    refine w_ifb rfl (fun hc1 => ?_) (fun hc1 => ?_)
    · skip
      refine w_reg ?_
      refine wl_f (f_assign rfl) ?_
      refine wl_end [(2, _), (3, _), (9, _), (10, _)] ⟨rfl, rfl, rfl, rfl, trivial⟩ ?_
      exact ⟨1, rfl, rfl, .inl rfl⟩
    · skip
      refine w_sub [(2, _), (3, _), (9, _), (10, _)] ⟨rfl, rfl, rfl, rfl, trivial⟩ (w_skip ?_)
      exact ⟨2, rfl, rfl, .inr rfl⟩
  · rintro _ _ w0 ⟨mode, rfl, rfl, hmode⟩
    refine w_seq ?_
    refine w_reg ?_
    refine wl_f (f_move rfl) ?_
    refine wl_f (f_move rfl) ?_
    refine wl_e (e_call0 rfl Tryz.func8 (by kernel_rfl) (fun w hh => tnew_ok mode m w hmode hm1 (by omega))) ?_
    rintro _ _ w1 ⟨_, rfl, t, r0, rfl, rfl, hr0⟩
    refine wl_f (f_move rfl) ?_
    refine wl_f (f_extract rfl rfl) ?_
    refine wl_f (f_extract rfl rfl) ?_
    refine wl_f (f_assign rfl) ?_
    refine wl_f (f_assign rfl) ?_
    refine wl_end [(2, _), (3, _), (11, _), (12, _)] ⟨rfl, rfl, rfl, rfl, trivial⟩ ?_
    refine w_seq ?_
    refine w_seq ?_
    refine w_reg ?_
    refine wl_f (f_move rfl) ?_
    refine wl_f (f_neq rfl rfl) ?_
    refine wl_f (f_move rfl) ?_
    refine wl_or (j := 2) (c := false) 2 [(2, _), (3, _), (11, _)] ⟨rfl, rfl, rfl, trivial⟩ rfl rfl rfl rfl rfl (fun hg5_5 => ?_) (fun w5_5 => ?_)
    · skip
      refine wl_gf rfl rfl (f_move rfl) ?_
      refine wl_gf rfl rfl (f_eqlnil rfl rfl Tryz.underlying24) ?_
      exact wl_pend rfl rfl ⟨rfl, rfl, rfl, trivial⟩ (List.Sublist.refl _)
    refine wl_end [(2, _), (3, _), (11, _), (41, _)] ⟨rfl, rfl, rfl, rfl, trivial⟩ ?_
    refine w_iff rfl ?_
    refine w_skip ?_
    refine w_seq ?_
    refine w_reg ?_
    refine wl_f (f_move rfl) ?_
    refine wl_e (e_call0 rfl Tryz.func9 (by kernel_rfl) (fun w hh => new_spec A1 L1.length c1 w)) ?_
    rintro _ _ w2 ⟨_, rfl, bd, rfl, rfl⟩
    refine wl_f (f_assign rfl) ?_
    refine wl_pick [1, 0] rfl ?_
    refine wl_end [(3, _), (11, _), (13, _)] ⟨rfl, rfl, rfl, trivial⟩ ?_
    refine w_seq ?_
    refine w_seq ?_
    refine w_reg ?_
    refine wl_f (f_assign rfl) ?_
    refine wl_end [(3, _), (11, _), (13, _), (14, _)] ⟨rfl, rfl, rfl, rfl, trivial⟩ ?_
    refine w_block ?_
    refine w_loop (fun kk m' H w' => ∃ (i : Nat) (S : TS) (r : Res) (p : Nat), m' = [(3, .slice A2 L2.length c2), (11, .pointer (some ⟨t, 0, .none⟩)), (13, .pointer (some ⟨bd, 0, .none⟩)), (14, .int .i64 i)] ∧
      H = [r, deck bd (.slice A1 L1.length c1) p] ∧ TbS t m S r ∧ TsI m S ∧ kk + i = 60 ∧ i ≤ L2.length ∧ p ≤ L1.length) 60
      ⟨0, _, r0, 0, rfl, rfl, hr0, TsI.new mode m hm1, rfl, Nat.zero_le _, Nat.zero_le _⟩ ?_
    rintro kk _ _ w3 ⟨i, S, r, p, rfl, rfl, hr, hI, hkk, hiL, hp⟩
    refine w_seq ?_
    refine w_seq ?_
    refine w_reg ?_
    refine wl_f (f_move rfl) ?_
    refine wl_f (f_move rfl) ?_
    refine wl_f (f_len rfl Tryz.underlying41) ?_
    refine wl_f (f_lss rfl rfl) ?_
    refine wl_f (f_move rfl) ?_
    refine wl_and (j := 4) (c := decide ((i : Int) < 60)) 2 [(3, _), (11, _), (13, _), (14, _)] ⟨rfl, rfl, rfl, rfl, trivial⟩ rfl rfl rfl rfl rfl (fun hg9_7 => ?_) (fun w9_7 => ?_)
    · skip
      refine wl_gf rfl rfl (f_move rfl) ?_
      refine wl_gf rfl rfl (f_lss rfl rfl) ?_
      exact wl_pend rfl rfl ⟨rfl, rfl, rfl, rfl, trivial⟩ (List.Sublist.refl _)
    refine wl_end [(3, _), (11, _), (13, _), (14, _), (51, _)] ⟨rfl, rfl, rfl, rfl, rfl, trivial⟩ ?_
    refine w_ifb rfl (fun hc3 => ?_) (fun hc3 => ?_)
    · skip
      simp only [Bool.and_eq_true, decide_eq_true_eq] at hc3
      have hi : i < L2.length := by omega
      obtain ⟨s0, hsi⟩ : ∃ s, L2[i]? = some s := ⟨_, List.getElem?_eq_getElem hi⟩
      have hs0 := hb2 s0 (List.mem_of_getElem? hsi)
      obtain ⟨sn, rfl⟩ : ∃ sn : Nat, s0 = sn := ⟨s0.toNat, by omega⟩
      obtain ⟨b2, off, rfl, _, _, hcell⟩ := hxA.resolve_left (by omega)
      refine w_skip ?_
      refine w_seq ?_
      refine w_block ?_
      refine w_draw [(0, true), (1, true), (3, true), (4, true), (5, true), (6, true), (7, true), (8, true), (2, false), (9, false)] ([]) ([_, _]) mixed (by kernel_rfl) (by kernel_rfl) rfl (List.Perm.refl _) (fun w11_ => ?_)
      refine wd_f rfl (f_move rfl) ?_
      refine wd_f rfl (f_move rfl) ?_
      refine wd_f rfl (f_move rfl) ?_
      refine wd_f rfl (f_move rfl) ?_
      refine wd_f rfl (f_indexAddr 1 (i := i) rfl rfl Tryz.underlying41 (by kernel_rfl) rfl hi) ?_
      refine wd_f rfl (f_loado (v := .int .u8 sn) rfl Tryz.underlying5 rfl (hcell _ _ (by simp [hsi])) id) ?_
      refine wd_f rfl (f_convu rfl Tryz.underlying5 Tryz.underlying33 (by omega)) ?_
      refine wd_f rfl (f_eqv (v' := .int .u64 ((1 + sn : Nat) : Int)) (f_addu rfl rfl (by omega)) (by congr 1)) ?_
      refine wd_e rfl (e_call1 (deck bd (.slice A1 L1.length c1) p) [_] rfl Tryz.func10 (by kernel_rfl) (pk1 1 rfl) (fun w hh hs' => short3_spec bd _ L1 p w ⟨h1.old1 hh (pk1 1 rfl), hL1, hp⟩ hs')) ?_
      rintro _ _ w4 ⟨_, rfl, key, p2, rfl, hk3, rfl, hp2⟩
      have hks : small key := small_of (by omega)
      refine ⟨_, List.Perm.refl _, ?_⟩
      refine wd_e rfl (e_call1 r [_] rfl Tryz.func11 (by kernel_rfl) (pk1 1 rfl) (fun w hh hs => tadd_spec key (1 + sn) (by omega) hks (by omega) hI.j hr hs)) ?_
      rintro _ _ w5 ⟨_, rfl, e1, S1, r1, rfl, rfl, hr1, hA⟩
      refine ⟨_, List.Perm.refl _, ?_⟩
      refine wd_end [(3, _), (11, _), (13, _), (14, _)] ⟨rfl, rfl, rfl, rfl, trivial⟩ ?_
      refine w_reg ?_
      refine wl_f (f_move rfl) ?_
      refine wl_f (f_add rfl rfl (by omega)) ?_
      refine wl_f (f_assign rfl) ?_
      refine wl_end [(3, _), (11, _), (13, _), (14, _)] ⟨rfl, rfl, rfl, rfl, trivial⟩ ?_
      exact ⟨kk - 1, by omega, i + 1, S1, r1, p2, rfl, rfl, hr1, hI.add hA, by omega, by omega, hp2⟩
    · skip
      refine w_exit0 ?_
      refine w_seq ?_
      refine w_reg ?_
      refine wl_f (f_move rfl) ?_
      refine wl_e (e_call1 (deck bd (.slice A1 L1.length c1) p) [_] rfl Tryz.func10 (by kernel_rfl) (pk1 1 rfl) (fun w hh hs' => short3_spec bd _ L1 p w ⟨h1.old1 hh (pk1 1 rfl), hL1, hp⟩ hs')) ?_
      rintro _ _ w4 ⟨_, rfl, key, p2, rfl, hk3, rfl, hp2⟩
      have hks : small key := small_of (by omega)
      refine wl_f (f_assign rfl) ?_
      refine wl_pick [1] rfl ?_
      refine wl_end [(11, _), (15, _)] ⟨rfl, rfl, trivial⟩ ?_
      refine w_seq ?_
      refine w_reg ?_
      refine wl_f (f_move rfl) ?_
      refine wl_e (e_call1 r [] rfl Tryz.func14 (by kernel_rfl) (List.Perm.refl _) (fun w hh hs => tentries_spec (by omega) hr hs)) ?_
      rintro ve _ w5 ⟨_, rfl, es, rfl, hes⟩
      refine wl_with fun hh => ?_
      obtain ⟨Ae, ce, rfl⟩ := row_slice hh (i := 1) rfl
      clear hh
      have hel := hr.room hes
      refine wl_f (f_move rfl) ?_
      refine wl_e (e_call1 r [_] rfl Tryz.func15 (by kernel_rfl) (List.Perm.refl _) (fun w hh hs => tuntracked_spec hr hs)) ?_
      rintro _ _ w6 ⟨_, rfl, rfl, rfl⟩
      refine wl_f (f_move rfl) ?_
      refine wl_e (e_call1 r [_] rfl Tryz.func16 (by kernel_rfl) (List.Perm.refl _) (fun w hh hs => ttotal_spec hr hs)) ?_
      rintro _ _ w7 ⟨_, rfl, rfl, rfl⟩
      refine wl_f (f_assign rfl) ?_
      refine wl_f (f_assign rfl) ?_
      refine wl_f (f_assign rfl) ?_
      refine wl_end [(11, _), (15, _), (16, _), (17, _), (18, _)] ⟨rfl, rfl, rfl, rfl, rfl, trivial⟩ ?_
      refine w_seq ?_
      refine w_reg ?_
      refine wl_f (f_move rfl) ?_
      refine wl_f (f_move rfl) ?_
      refine wl_e (e_call1 r [_] rfl Tryz.func17 (by kernel_rfl) (List.Perm.refl _) (fun w hh hs => ttake_spec key hks hr hs)) ?_
      rintro _ _ w8 ⟨_, rfl, k', o', s', is, S1, r1, rfl, rfl, hr1, hg, hT⟩
      obtain ⟨hy, hn⟩ := get_in hes hg
      refine wl_f (f_move rfl) ?_
      refine wl_f (f_extract rfl rfl) ?_
      refine wl_f (f_extract rfl rfl) ?_
      refine wl_e (e_allocs [.string ByteArray.empty, .int .u64 0, .int .u64 0] (by kernel_rfl)) ?_
      rintro _ _ w14_6 ⟨b14_6, rfl, rfl⟩
      (first | refine wl_e0 (e_store0 (us := [_, _, _]) rfl rfl rfl (by kernel_rfl) (by simp [Value.oneCell']) rfl rfl) ?_ | refine wl_e0 (e_store1 (us := [_, _, _]) rfl rfl rfl (by kernel_rfl) (by simp [Value.oneCell']) rfl rfl) ?_ | refine wl_e0 (e_store2 (us := [_, _, _]) rfl rfl rfl (by kernel_rfl) (by simp [Value.oneCell']) rfl rfl) ?_ | refine wl_e0 (e_store3 (us := [_, _, _]) rfl rfl rfl (by kernel_rfl) (by simp [Value.oneCell']) rfl rfl) ?_)
      rintro _ _ w14_7 rfl
      refine wl_f (f_assign rfl) ?_
      refine wl_end [(11, _), (15, _), (16, _), (17, _), (18, _), (19, _), (20, _)] ⟨rfl, rfl, rfl, rfl, rfl, rfl, rfl, trivial⟩ ?_
      refine w_seq ?_
      refine w_reg ?_
      refine wl_f (f_assign rfl) ?_
      refine wl_end [(11, _), (15, _), (16, _), (17, _), (18, _), (19, _), (20, _), (21, _)] ⟨rfl, rfl, rfl, rfl, rfl, rfl, rfl, rfl, trivial⟩ ?_
      refine w_seq ?_
      refine w_reg ?_
      refine wl_f (f_assign rfl) ?_
      refine wl_end [(11, _), (15, _), (16, _), (17, _), (18, _), (19, _), (20, _), (21, _), (22, _)] ⟨rfl, rfl, rfl, rfl, rfl, rfl, rfl, rfl, rfl, trivial⟩ ?_
      refine w_seq ?_
      refine w_seq ?_
      refine w_reg ?_
      refine wl_f (f_move rfl) ?_
      refine wl_f (f_len rfl Tryz.underlying42) ?_
      refine wl_f (f_move rfl) ?_
      refine wl_end [(11, _), (15, _), (17, _), (18, _), (19, _), (20, _), (21, _), (22, _), (78, _), (79, _), (80, _)] ⟨rfl, rfl, rfl, rfl, rfl, rfl, rfl, rfl, rfl, rfl, rfl, trivial⟩ ?_
      refine w_block ?_
      refine w_nilrow 46 3 ?_
      refine w_loop (fun kk m' H w' => ∃ (j : Nat) (W : Value), m' = [(11, .pointer (some ⟨t, 0, .none⟩)), (15, .string key), (17, .int .u64 (S.base : Int)), (18, .int .u64 (S.total : Int)), (19, .pointer (some ⟨b14_6, 0, .none⟩)), (20, .bool is), (21, W), (22, .bool ((es.take j).any fun x => decide (x.1 = key))), (78, .slice Ae es.length ce), (79, .int .i64 es.length), (80, .int .i64 j)] ∧
        H = [row W 46 3 ((es.take j).filter fun x => !decide (x.1 = key)).length (encs ((es.take j).filter fun x => !decide (x.1 = key))), blk b14_6 [.string k', .int .u64 (o' : Int), .int .u64 (s' : Int)] 46, r1, row (.slice Ae es.length ce) 46 3 es.length (encs es)] ∧ kk + j = es.length) es.length ⟨0, _, rfl, rfl, rfl⟩ ?_
      rintro kk4 _ _ w13 ⟨j, W, rfl, rfl, hkk4⟩
      refine w_seq ?_
      refine w_reg ?_
      refine wl_f (f_lss rfl rfl) ?_
      refine wl_end [(11, _), (15, _), (17, _), (18, _), (19, _), (20, _), (21, _), (22, _), (78, _), (79, _), (80, _), (81, _)] ⟨rfl, rfl, rfl, rfl, rfl, rfl, rfl, rfl, rfl, rfl, rfl, rfl, trivial⟩ ?_
      refine w_seq ?_
      refine w_ifd rfl (fun hc4 => ?_) (fun hc4 => ?_)
      · skip
        have hj : j < es.length := by
          have : (j : Int) < (es.length : Int) := hc4
          omega
        obtain ⟨x, hx⟩ : ∃ x, es[j]? = some x := ⟨_, List.getElem?_eq_getElem hj⟩
        have hfl : ((es.take j).filter fun x => !decide (x.1 = key)).length ≤ 8 := by
          have h5 : ((es.take j).filter fun x => !decide (x.1 = key)).length ≤ (es.take j).length := List.length_filter_le ..
          rw [List.length_take] at h5
          omega
        refine w_with fun hh => ?_
        obtain ⟨ge, ce2, e⟩ := row_form hh (i := 3) rfl (by omega)
        cases e
        clear hh
        refine w_skip ?_
        refine w_seq ?_
        refine w_post (fun m' H w' => ∃ W : Value, m' = [(11, .pointer (some ⟨t, 0, .none⟩)), (15, .string key), (17, .int .u64 (S.base : Int)), (18, .int .u64 (S.total : Int)), (19, .pointer (some ⟨b14_6, 0, .none⟩)), (20, .bool is), (21, W), (22, .bool ((es.take (j + 1)).any fun x => decide (x.1 = key))), (78, .slice (some ⟨ge, 0, .none⟩) es.length ce), (79, .int .i64 es.length), (80, .int .i64 j)] ∧
          H = [row W 46 3 ((es.take (j + 1)).filter fun x => !decide (x.1 = key)).length (encs ((es.take (j + 1)).filter fun x => !decide (x.1 = key))), blk b14_6 [.string k', .int .u64 (o' : Int), .int .u64 (s' : Int)] 46, r1, row (.slice (some ⟨ge, 0, .none⟩) es.length ce) 46 3 es.length (encs es)]) ?_ ?_
        · skip
          refine w_block ?_
          refine w_seq ?_
          refine w_reg ?_
          refine wl_f (f_indexAddr 3 (i := j) rfl rfl Tryz.underlying42 (by kernel_rfl) rfl hj) ?_
          refine wl_f (f_loadsr (cs := ecell (some x)) 3 rfl Tryz.underlying46 rfl (by kernel_rfl) rfl (encs_get hx)) ?_
          refine wl_e (e_allocs [.string ByteArray.empty, .int .u64 0, .int .u64 0] (by kernel_rfl)) ?_
          rintro _ _ w19_2 ⟨b19_2, rfl, rfl⟩
          (first | refine wl_e0 (e_store0 (us := [_, _, _]) rfl rfl rfl (by kernel_rfl) (by simp [Value.oneCell']) rfl rfl) ?_ | refine wl_e0 (e_store1 (us := [_, _, _]) rfl rfl rfl (by kernel_rfl) (by simp [Value.oneCell']) rfl rfl) ?_ | refine wl_e0 (e_store2 (us := [_, _, _]) rfl rfl rfl (by kernel_rfl) (by simp [Value.oneCell']) rfl rfl) ?_ | refine wl_e0 (e_store3 (us := [_, _, _]) rfl rfl rfl (by kernel_rfl) (by simp [Value.oneCell']) rfl rfl) ?_)
          rintro _ _ w19_3 rfl
          refine wl_end [(11, _), (15, _), (17, _), (18, _), (19, _), (20, _), (21, _), (22, _), (24, _), (78, _), (79, _), (80, _)] ⟨rfl, rfl, rfl, rfl, rfl, rfl, rfl, rfl, rfl, rfl, rfl, rfl, trivial⟩ ?_
          refine w_seq ?_
          refine w_seq ?_
          refine w_reg ?_
          refine wl_f (f_fieldAddr 0 rfl Tryz.underlying46 rfl rfl (by kernel_rfl)) ?_
          (first | refine wl_f (f_loadb 0 rfl Tryz.underlying9 rfl rfl rfl) ?_ | refine wl_f (f_loadb 1 rfl Tryz.underlying9 rfl rfl rfl) ?_ | refine wl_f (f_loadb 2 rfl Tryz.underlying9 rfl rfl rfl) ?_ | refine wl_f (f_loadb 3 rfl Tryz.underlying9 rfl rfl rfl) ?_ | refine wl_f (f_loadb 4 rfl Tryz.underlying9 rfl rfl rfl) ?_ | refine wl_f (f_loadb 5 rfl Tryz.underlying9 rfl rfl rfl) ?_ | refine wl_f (f_loadb 6 rfl Tryz.underlying9 rfl rfl rfl) ?_)
          refine wl_f (f_move rfl) ?_
          refine wl_f (f_eqls rfl rfl) ?_
          refine wl_end [(11, _), (15, _), (17, _), (18, _), (19, _), (20, _), (21, _), (22, _), (24, _), (78, _), (79, _), (80, _), (87, _)] ⟨rfl, rfl, rfl, rfl, rfl, rfl, rfl, rfl, rfl, rfl, rfl, rfl, rfl, trivial⟩ ?_
          refine w_ifd rfl (fun hc5 => ?_) (fun hc5 => ?_)
          · skip
            have hxk : x.1 = key := hc5
            have hxe : (k', o', s') = x := by
              cases is with
              | false => exact absurd (by rw [← hxk]; exact eks_mem (List.mem_of_getElem? hx)) (hn rfl)
              | true =>
                obtain ⟨h5, h6⟩ := hy rfl
                obtain ⟨x1, x2⟩ := x
                have hxk : x1 = key := hxk
                subst hxk
                obtain ⟨C, D, hCD⟩ := List.append_of_mem (List.mem_of_getElem? hx)
                rw [h5, loc_uniq (hes.srt.imp fun h => nlt_ne h) hCD h6]
            refine w_seq ?_
            refine w_reg ?_
            (first | refine wl_f (f_loadsb (cs := [_, _, _]) 0 rfl Tryz.underlying46 rfl (by kernel_rfl) rfl rfl) ?_ | refine wl_f (f_loadsb (cs := [_, _, _]) 1 rfl Tryz.underlying46 rfl (by kernel_rfl) rfl rfl) ?_ | refine wl_f (f_loadsb (cs := [_, _, _]) 2 rfl Tryz.underlying46 rfl (by kernel_rfl) rfl rfl) ?_ | refine wl_f (f_loadsb (cs := [_, _, _]) 3 rfl Tryz.underlying46 rfl (by kernel_rfl) rfl rfl) ?_ | refine wl_f (f_loadsb (cs := [_, _, _]) 4 rfl Tryz.underlying46 rfl (by kernel_rfl) rfl rfl) ?_ | refine wl_f (f_loadsb (cs := [_, _, _]) 5 rfl Tryz.underlying46 rfl (by kernel_rfl) rfl rfl) ?_ | refine wl_f (f_loadsb (cs := [_, _, _]) 6 rfl Tryz.underlying46 rfl (by kernel_rfl) rfl rfl) ?_)
            (first | refine wl_f (f_loadsb (cs := [_, _, _]) 0 rfl Tryz.underlying46 rfl (by kernel_rfl) rfl rfl) ?_ | refine wl_f (f_loadsb (cs := [_, _, _]) 1 rfl Tryz.underlying46 rfl (by kernel_rfl) rfl rfl) ?_ | refine wl_f (f_loadsb (cs := [_, _, _]) 2 rfl Tryz.underlying46 rfl (by kernel_rfl) rfl rfl) ?_ | refine wl_f (f_loadsb (cs := [_, _, _]) 3 rfl Tryz.underlying46 rfl (by kernel_rfl) rfl rfl) ?_ | refine wl_f (f_loadsb (cs := [_, _, _]) 4 rfl Tryz.underlying46 rfl (by kernel_rfl) rfl rfl) ?_ | refine wl_f (f_loadsb (cs := [_, _, _]) 5 rfl Tryz.underlying46 rfl (by kernel_rfl) rfl rfl) ?_ | refine wl_f (f_loadsb (cs := [_, _, _]) 6 rfl Tryz.underlying46 rfl (by kernel_rfl) rfl rfl) ?_)
            refine wl_f (f_eqv (v' := .bool true) (f_bin rfl rfl (fun w => run_eqGuard_agg w _ _ _ _ _ _ (by kernel_rfl)) (fun w => eqlEn _ _ _ _ _ _ w)) (by rw [← hxe]; simp)) ?_
            refine wl_f (f_assign rfl) ?_
            refine wl_pick [1, 1, 1, 1] rfl ?_
            refine wl_end [(11, _), (15, _), (17, _), (18, _), (19, _), (20, _), (21, _), (22, _), (78, _), (79, _), (80, _)] ⟨rfl, rfl, rfl, rfl, rfl, rfl, rfl, rfl, rfl, rfl, rfl, trivial⟩ ?_
            refine w_exit0 ?_
            refine ⟨W, ?_, ?_⟩
            · rw [take_snoc' hx, List.any_append, List.any_cons, hxk, decide_eq_true rfl, Bool.true_or, Bool.or_true]
            · rw [take_snoc' hx, List.filter_append, List.filter_cons_of_neg (by simp [hxk]), List.filter_nil, List.append_nil]
          · skip
            have hxk : ¬ x.1 = key := hc5
            refine w_skip ?_
            refine w_reg ?_
            refine wl_f (f_move rfl) ?_
            (first | refine wl_f (f_loadsb (cs := [_, _, _]) 0 rfl Tryz.underlying46 rfl (by kernel_rfl) rfl rfl) ?_ | refine wl_f (f_loadsb (cs := [_, _, _]) 1 rfl Tryz.underlying46 rfl (by kernel_rfl) rfl rfl) ?_ | refine wl_f (f_loadsb (cs := [_, _, _]) 2 rfl Tryz.underlying46 rfl (by kernel_rfl) rfl rfl) ?_ | refine wl_f (f_loadsb (cs := [_, _, _]) 3 rfl Tryz.underlying46 rfl (by kernel_rfl) rfl rfl) ?_ | refine wl_f (f_loadsb (cs := [_, _, _]) 4 rfl Tryz.underlying46 rfl (by kernel_rfl) rfl rfl) ?_ | refine wl_f (f_loadsb (cs := [_, _, _]) 5 rfl Tryz.underlying46 rfl (by kernel_rfl) rfl rfl) ?_ | refine wl_f (f_loadsb (cs := [_, _, _]) 6 rfl Tryz.underlying46 rfl (by kernel_rfl) rfl rfl) ?_)
            refine wl_e (e_lit1 (cs := [_, _, _]) t42 rfl rfl rfl (by omega)) ?_
            rintro _ _ w22_2 ⟨b22_2, rfl, rfl⟩
            refine wl_e (e_appN 2 t42 rfl rfl rfl (fun w hh => Rd.held0 hh (i := 0) rfl) (by simp [Value.oneCell']) (by omega) (by omega)) ?_
            rintro W2 _ w15 ⟨_, rfl⟩
            refine wl_f (f_assign rfl) ?_
            refine wl_pick [2, 2, 2, 2] rfl ?_
            refine wl_end [(11, _), (15, _), (17, _), (18, _), (19, _), (20, _), (21, _), (22, _), (78, _), (79, _), (80, _)] ⟨rfl, rfl, rfl, rfl, rfl, rfl, rfl, rfl, rfl, rfl, rfl, trivial⟩ ?_
            refine ⟨W2, ?_, ?_⟩
            · rw [take_snoc' hx, List.any_append, List.any_cons, decide_eq_false hxk, List.any_nil, Bool.false_or, Bool.or_false]
            · rw [take_snoc' hx, List.filter_append, List.filter_cons_of_pos (by simp [hxk]), List.filter_nil, encs_snoc, List.length_append]
              rfl
        · rintro _ _ w16 ⟨W2, rfl, rfl⟩
          refine w_reg ?_
          refine wl_f (f_add rfl rfl (by omega)) ?_
          refine wl_f (f_move rfl) ?_
          refine wl_end [(11, _), (15, _), (17, _), (18, _), (19, _), (20, _), (21, _), (22, _), (78, _), (79, _), (80, _)] ⟨rfl, rfl, rfl, rfl, rfl, rfl, rfl, rfl, rfl, rfl, rfl, trivial⟩ ?_
          exact ⟨kk4 - 1, by omega, j + 1, W2, rfl, rfl, by omega⟩
      · skip
        have hj : j = es.length := by
          have : ¬ (j : Int) < (es.length : Int) := hc4
          omega
        subst hj
        rw [List.take_length]
        have hfnd : (es.any fun x => decide (x.1 = key)) = is := by
          cases is with
          | true =>
            obtain ⟨_, h6⟩ := hy rfl
            exact List.any_eq_true.2 ⟨_, h6, by simp⟩
          | false =>
            refine List.any_eq_false.2 fun x hx => ?_
            have : x.1 ≠ key := fun e => hn rfl (by rw [← e]; exact eks_mem hx)
            simp [this]
        rw [hfnd]
        have heq := fun es' (h : EntS es' S1) => taken_eq hr.uq hT hes h
        obtain ⟨hsb, hst⟩ := hT.same
        refine w_exit0 ?_
        refine w_seq ?_
        refine w_reg ?_
        refine wl_f (f_move rfl) ?_
        refine wl_f (f_move rfl) ?_
        refine wl_f (f_eqv (v' := .bool true) (f_eqlb rfl rfl Tryz.underlying4) (by simp)) ?_
        refine wl_f (f_move rfl) ?_
        refine wl_and (j := 3) (c := true) 4 [(11, _), (17, _), (18, _)] ⟨rfl, rfl, rfl, trivial⟩ rfl rfl rfl rfl rfl (fun hg24_8 => ?_) (fun w24_8 => ?_)
        · skip
          refine wl_gf rfl rfl (f_move rfl) ?_
          refine wl_ge rfl rfl (e_call1 r1 [_, _, _] rfl Tryz.func14 (by kernel_rfl) (pk1 2 rfl) (fun w hh hs => tentries_spec (by omega) hr1 hs)) ?_
          rintro ve2 _ w17 ⟨_, rfl, es2, rfl, hes2⟩
          have hel2 := hr1.room hes2
          refine wl_gf rfl rfl (f_move rfl) ?_
          refine wl_ge rfl rfl (e_call0 rfl Tryz.func18 (by kernel_rfl) (fun w hh => sameEntries_spec _ _ es2 _ w (Rd.held0 hh (i := 1) rfl) (Rd.held0 hh (i := 2) rfl) (by omega) (by rw [← heq es2 hes2]; omega))) ?_
          rintro _ _ w18 ⟨_, rfl, rfl, rfl⟩
          rw [decide_eq_true (heq es2 hes2)]
          refine wl_pick [2, 2, 0, 1] rfl ?_
          exact wl_pend rfl rfl ⟨rfl, rfl, rfl, trivial⟩ (List.Sublist.refl _)
        refine wl_f (f_move rfl) ?_
        refine wl_and (j := 9) (c := true) 4 [(11, _), (18, _)] ⟨rfl, rfl, trivial⟩ rfl rfl rfl rfl rfl (fun hg24_14 => ?_) (fun w24_14 => ?_)
        · skip
          refine wl_gf rfl rfl (f_move rfl) ?_
          refine wl_ge rfl rfl (e_call1 r1 [_, _, _] rfl Tryz.func15 (by kernel_rfl) (pk1 2 rfl) (fun w hh hs => tuntracked_spec hr1 hs)) ?_
          rintro _ _ w19 ⟨_, rfl, rfl, rfl⟩
          refine wl_pick [1, 1, 0, 0] rfl ?_
          refine wl_gf rfl rfl (f_move rfl) ?_
          refine wl_gf rfl rfl (f_eqv (v' := .bool true) (f_eql rfl rfl) (by rw [hsb]; simp)) ?_
          exact wl_pend rfl rfl ⟨rfl, rfl, trivial⟩ (List.Sublist.refl _)
        refine wl_f (f_move rfl) ?_
        refine wl_and (j := 15) (c := true) 4 [] trivial rfl rfl rfl rfl rfl (fun hg24_20 => ?_) (fun w24_20 => ?_)
        · skip
          refine wl_gf rfl rfl (f_move rfl) ?_
          refine wl_ge rfl rfl (e_call1 r1 [_, _, _] rfl Tryz.func16 (by kernel_rfl) (pk1 2 rfl) (fun w hh hs => ttotal_spec hr1 hs)) ?_
          rintro _ _ w20 ⟨_, rfl, rfl, rfl⟩
          refine wl_pick [1, 1, 0, 0] rfl ?_
          refine wl_gf rfl rfl (f_move rfl) ?_
          refine wl_gf rfl rfl (f_eqv (v' := .bool true) (f_eql rfl rfl) (by rw [hst]; simp)) ?_
          exact wl_pend rfl rfl trivial (List.Sublist.refl _)
        refine wl_f (f_move rfl) ?_
        refine wl_and (j := 21) (c := true) 1 [] trivial rfl rfl rfl rfl rfl (fun hg24_23 => ?_) (fun w24_23 => ?_)
        · skip
          refine wl_ge rfl rfl (e_call0 rfl Tryz.func13 (by kernel_rfl) (fun w hh => awake15_spec w)) ?_
          rintro _ _ w21 ⟨_, rfl, rfl⟩
          exact wl_pend rfl rfl trivial (List.sublist_append_right _ _)
        refine wl_f (f_assign rfl) ?_
        refine wl_end [(8, _)] ⟨rfl, trivial⟩ ?_
        refine w_ret ?_
        refine ⟨_, _, fun a ha hh => results_tmps Tryz.results4 rfl a ha _, List.Sublist.refl _, ?_⟩
        rfl
end Go.Proofs.YtmagdjlcckgkpaaGreat
