/- The law EventDecode: the call returns true. -/
import Derived.Test.YthomfpfjcniknaaD23
import Derived.Test.YthomfpfjcniknaaD14
import Derived.Test.YthomfpfjcniknaaD7
namespace Go.Proofs.Ythomfpfjcniknaa
open Go.RowKit

theorem encEv_deck {tags : List Tg} {t : Int} {wt : Nat} (h : smallish tags) (ht : 0 ≤ t ∧ t ≤ 1099511627776) :
    encEv tags t wt = (venc t.toNat ++ venc wt ++ venc tags.length ++ tagsB tags, 0) := by
  unfold encEv
  rw [if_neg (by omega), if_neg (by have := h.1; omega), if_pos (fun x hx => by have := h.2 x hx; exact ⟨by omega, by omega⟩)]
theorem venc_lt {x : Nat} (h : x < 18446744073709551616) : ∀ b ∈ venc x, b < 256 := enc_lt 10 x (by omega)
theorem tagsB_lt : ∀ (tags : List Tg), (∀ x ∈ tags, tagOk x) → ∀ b ∈ tagsB tags, b < 256
  | [], _, b, hb => by simp [tagsB] at hb
  | t :: l, h, b, hb => by
    simp only [tagsB, tagB, List.mem_append] at hb
    have ht := h t (List.mem_cons_self ..)
    unfold tagOk at ht
    rcases hb with ((((hb | hb) | hb) | hb) | hb)
    · exact venc_lt (by omega) b hb
    · exact sb_lt _ b hb
    · exact venc_lt (by omega) b hb
    · exact sb_lt _ b hb
    · exact tagsB_lt l (fun x hx => h x (List.mem_cons_of_mem _ hx)) b hb
theorem encEv_lt (tags : List Tg) (t : Int) (wt : Nat) (hw : wt < 18446744073709551616) : ∀ b ∈ (encEv tags t wt).1, b < 256 := by
  unfold encEv
  split
  · simp
  split
  · simp
  rename_i h1 h2
  split
  · rename_i h3
    intro b hb
    simp only [List.mem_append] at hb
    rcases hb with ((hb | hb) | hb) | hb
    · exact venc_lt (by omega) b hb
    · exact venc_lt hw b hb
    · exact venc_lt (by omega) b hb
    · exact tagsB_lt tags h3 b hb
  · simp
theorem bvs_set (bl : List Nat) (j k : Nat) (hj : j < bl.length) : (bv bl).take (0 + j * 1) ++ [.int .u8 (k : Int)] ++ (bv bl).drop (0 + j * 1 + 1) = bv (bl.set j k) := by
  rw [show 0 + j * 1 = j by omega, List.set_eq_take_append_cons_drop, if_pos hj]
  simp [bv, List.map_take, List.map_drop]
theorem tagsF_len (all : List Nat) : ∀ (n : Nat) (s : Nat × Int), (tagsF all n s).1.length = n
  | 0, _ => rfl
  | n + 1, s => by simp [tagsF, tagsF_len all n]
theorem decF_len (xs : List Nat) : (decF xs).1.1.length ≤ 8 := by
  unfold decF
  dsimp only
  split
  · simp
  · show (tagsF _ _ _).1.length ≤ 8
    rw [tagsF_len]
    exact numF_le _ _ _ _
theorem lit_sl5 (A1 A2 A3 A4 A5 : Option Addr) (l1 l2 l3 l4 l5 c1 c2 c3 c4 c5 : Nat) (w : World) :
    (Instr.buildSlice 45 5 [(0, .slice A1 l1 c1), (1, .slice A2 l2 c2), (2, .slice A3 l3 c3), (3, .slice A4 l4 c4), (4, .slice A5 l5 c5)].toArray).run Try.prog w =
      .ok (.slice (some ⟨w.heap.size, 0, .none⟩) 5 5) (w.alloc (.cells [.slice A1 l1 c1, .slice A2 l2 c2, .slice A3 l3 c3, .slice A4 l4 c4, .slice A5 l5 c5].toArray 33)) := by kernel_rfl

set_option maxHeartbeats 4000000 in
theorem eventDecode_spec (A : Option Addr) (c : Nat) (raw : List Nat) (D : Option Addr) (dc : Nat) (L : List Int) (at_ : Int) (k : Nat) (w : World) (hraw : Rd w Nil 1 (.slice A raw.length c) raw.length (bv raw)) (hrn : raw.length ≤ 140737488355328) (hrb : ∀ b ∈ raw, b < 256)
    (hd : Rd w Nil 1 (.slice D L.length dc) L.length (iv L)) (hL : L.length ≤ 140737488355328) (hk : k < 256) :
    Spec Try.prog 5 [.slice A raw.length c, .slice D L.length dc, .int .i64 at_, .int .u8 k] w Nil fun r _ => r = .bool true := by
  refine enter (n := 103) Try.func5 rfl rfl [(0, _), (1, _), (2, _), (3, _)] rfl ⟨rfl, rfl, rfl, rfl, trivial⟩ (Holds.start _ _) ?_
  refine w_seq ?_
  refine w_reg ?_
  refine wl_f (f_assign rfl) ?_
  refine wl_end [(0, _), (1, _), (2, _), (3, _)] ⟨rfl, rfl, rfl, rfl, trivial⟩ ?_
  refine w_seq ?_
  refine w_seq ?_
  refine w_reg ?_
  refine wl_f (f_move rfl) ?_
  refine wl_f (f_len rfl Try.underlying33) ?_
  refine wl_f (f_gtr rfl rfl) ?_
  refine wl_end [(0, _), (1, _), (2, _), (3, _), (22, _)] ⟨rfl, rfl, rfl, rfl, rfl, trivial⟩ ?_
  refine w_ifd rfl (fun hc1 => ?_) (fun hc1 => ?_)
  · skip
    refine w_seq ?_
    refine w_reg ?_
    refine wl_e (e_call0 rfl Try.func16 (by kernel_rfl) (fun w hh => awake_spec w)) ?_
    rintro _ _ w1 ⟨_, rfl, rfl, rfl⟩
    refine wl_f (f_assign rfl) ?_
    refine wl_end [(8, _)] ⟨rfl, trivial⟩ ?_
    refine w_ret ?_
    refine ⟨_, _, fun a ha hh => results_tmps Try.results5 rfl a ha _, List.Sublist.refl _, ?_⟩
    rfl
  · skip
    refine w_skip ?_
    refine w_seq ?_
    refine w_reg ?_
    refine wl_f (f_move rfl) ?_
    refine wl_e (e_call0 rfl Try.func17 (by kernel_rfl) (fun w hh => new_spec D _ dc w)) ?_
    rintro _ _ w3 ⟨_, rfl, b3, rfl, rfl⟩
    refine wl_f (f_move rfl) ?_
    refine wl_f (f_and rfl rfl rfl) ?_
    generalize hm0 : bits .and .i64 _ 1023 = m0
    have hm1 := and_bound at_ 1023 (by omega)
    have hm2 : 0 ≤ m0 ∧ m0 ≤ 1023 := hm0 ▸ hm1
    refine wl_e (e_call1 (deck b3 (.slice D L.length dc) 0) [] rfl Try.func18 (by kernel_rfl) (List.Perm.refl _) (fun w hh hs' => event_spec b3 _ L 0 m0 w ⟨hd.old1 hh (Hr := []) (List.Perm.refl _), hL, Nat.zero_le _⟩ hs')) ?_
    rintro _ _ w4 ⟨_, rfl, sly, ty, wy, p1, rfl, hty, hwy, rfl, hp1'⟩
    have hev := encEv_deck (t := m0) (wt := wy) hty (by omega)
    have hevb := encEv_lt ty m0 wy hwy
    refine wl_e (e_call0 rfl Try.func20 (by kernel_rfl) (fun w hh => rencode_spec _ ty m0 wy w (Rd.held0 hh (i := 0) rfl) (by have := hty.1; omega) (by omega) hwy)) ?_
    rintro _ _ w5 ⟨_, rfl, vb, rfl, rfl, hlb⟩
    have hE2 : (encEv ty m0 wy).2 = 0 := by rw [hev]
    have hE3 : 3 ≤ (encEv ty m0 wy).1.length := by
      rw [hev]
      simp only [List.length_append]
      have := venc_len m0.toNat; have := venc_len wy; have := venc_len ty.length
      omega
    generalize encEv ty m0 wy = E at hE2 hE3 hlb hevb ⊢
    obtain ⟨bl, e⟩ := E
    dsimp only at hE2 hE3 hlb hevb ⊢
    subst hE2
    refine wl_with fun hh => ?_
    obtain ⟨g, cb, rfl⟩ := row_form hh (i := 0) rfl (by show 0 < bl.length; omega)
    have hcb : bl.length ≤ cb := by
      obtain ⟨_, _, e, _, h, _⟩ := Rd.held0 hh (i := 0) rfl
      injection e with _ _ e
      subst e
      exact h
    clear hh
    refine wl_f (f_move rfl) ?_
    refine wl_f (f_extract rfl rfl) ?_
    refine wl_f (f_extract rfl rfl) ?_
    refine wl_f (f_assign rfl) ?_
    refine wl_f (f_assign rfl) ?_
    refine wl_pick [0] rfl ?_
    refine wl_end [(0, _), (2, _), (3, _), (9, _), (10, _)] ⟨rfl, rfl, rfl, rfl, rfl, trivial⟩ ?_
    refine w_seq ?_
    refine w_seq ?_
    refine w_reg ?_
    refine wl_f (f_move rfl) ?_
    refine wl_f (f_neq rfl rfl) ?_
    refine wl_f (f_move rfl) ?_
    refine wl_or (j := 2) (c := decide ((bl.length : Int) = 0)) 3 [(0, _), (2, _), (3, _), (9, _)] ⟨rfl, rfl, rfl, rfl, trivial⟩ rfl rfl rfl rfl rfl (fun hg4_6 => ?_) (fun w4_6 => ?_)
    · skip
      refine wl_gf rfl rfl (f_move rfl) ?_
      refine wl_gf rfl rfl (f_len rfl Try.underlying33) ?_
      refine wl_gf rfl rfl (f_eql rfl rfl) ?_
      exact wl_pend rfl rfl ⟨rfl, rfl, rfl, rfl, trivial⟩ (List.Sublist.refl _)
    refine wl_end [(0, _), (2, _), (3, _), (9, _), (39, _)] ⟨rfl, rfl, rfl, rfl, rfl, trivial⟩ ?_
    refine w_ifb rfl (fun h => absurd h (by simp only [Bool.or_eq_true, decide_eq_true_eq]; omega)) (fun _ => ?_)
    refine w_skip ?_
    refine w_seq ?_
    refine w_reg ?_
    refine wl_e (e_lit0 t33) ?_
    rintro _ _ w6_0 ⟨b6_0, rfl, rfl⟩
    refine wl_f (f_move rfl) ?_
    refine wl_e (e_appS0 t33 rfl rfl (fun w hh => Rd.held0 hh (i := 1) rfl) (bv_one bl) (by show (0 + bl.length) * 1 ≤ _; omega) (by show 0 + bl.length ≤ _; omega)) ?_
    rintro _ _ w7 ⟨⟨U, cu, rfl⟩, rfl⟩
    rw [Nat.zero_add, List.nil_append]
    refine wl_with fun hh => ?_
    obtain ⟨g2, c2, e⟩ := row_form hh (i := 0) rfl (by show 0 < bl.length; omega)
    injection e with e1 _ e3
    subst e1; subst e3
    clear hh
    refine wl_f (f_assign rfl) ?_
    refine wl_end [(0, _), (2, _), (3, _), (9, _), (11, _)] ⟨rfl, rfl, rfl, rfl, rfl, trivial⟩ ?_
    refine w_seq ?_
    refine w_reg ?_
    refine wl_f (f_move rfl) ?_
    refine wl_f (f_move rfl) ?_
    refine wl_f (f_shr rfl rfl (by omega) rfl) ?_
    refine wl_f (f_and rfl rfl rfl) ?_
    generalize hq0 : bits .and .i64 _ 255 = q0
    have hq1 := and_bound (at_.fdiv (2 ^ min (Int.toNat 10) IntKind.i64.bits)) 255 (by omega)
    have hq2 : 0 ≤ q0 ∧ q0 ≤ 255 := hq0 ▸ hq1
    obtain ⟨q, rfl⟩ : ∃ q : Nat, q0 = q := ⟨q0.toNat, by omega⟩
    refine wl_f (f_move rfl) ?_
    refine wl_f (f_len (len := bl.length) rfl Try.underlying33) ?_
    refine wl_f (f_rem rfl rfl (by omega)) ?_
    have hj : q % bl.length < bl.length := Nat.mod_lt _ (by omega)
    refine wl_f (f_move rfl) ?_
    refine wl_f (f_indexAddr 1 (i := q % bl.length) rfl rfl Try.underlying33 (by kernel_rfl) rfl hj) ?_
    refine wl_e0 (e_storer0 (us := [.int .u8 k]) (xs' := bv (bl.set (q % bl.length) k)) rfl rfl rfl (by kernel_rfl) (by simp [Value.oneCell']) (by rw [bv_len]; show 0 + (q % bl.length) * 1 + 1 ≤ _; omega) (bvs_set bl _ k hj)) ?_
    rintro _ _ w7_9 rfl
    refine wl_end [(0, _), (2, _), (3, _), (9, _), (11, _)] ⟨rfl, rfl, rfl, rfl, rfl, trivial⟩ ?_
    refine w_seq ?_
    refine w_seq ?_
    have hsl : (bl.set (q % bl.length) k).length = bl.length := List.length_set
    refine w_post (fun m H w' => ∃ (b5 : Nat) (U4 : Option Addr) (c4 : Nat), m = [(69, .slice (some ⟨b5, 0, .none⟩) 5 5), (70, .int .i64 5), (71, .int .i64 0)] ∧
    H = [row (.slice (some ⟨b5, 0, .none⟩) 5 5) 33 1 5 [.slice A raw.length c, .slice (some ⟨g, 0, .none⟩) bl.length cb, .slice (some ⟨g2, 0, .none⟩) bl.length cu, .slice (some ⟨g, 0, .none⟩) (q % bl.length) cb, .slice U4 (bl.length + 1) c4],
      row (.slice U4 (bl.length + 1) c4) 5 1 (bl.length + 1) (bv (bl ++ [k])), row (.slice (some ⟨g2, 0, .none⟩) bl.length cu) 5 1 bl.length (bv (bl.set (q % bl.length) k)), row (.slice (some ⟨g, 0, .none⟩) bl.length cb) 5 1 bl.length (bv bl)]) ?_ ?_
    · skip
      refine w_drawt (.fl 0 (.fl 1 (.fl 2 (.fl 3 (.fl 4 (.fl 5 (.fl 6 (.fl 7 (.fl 8 (.fl 9 (.fl 10 (.fl 12 (.fl 14 (.fl 19 (.two 11 (.two 13 (.ef 15 (.ef 16 (.ef 17 (.fl 18 .done)))) 15 (.ef 13 (.ef 16 (.ef 17 (.fl 18 .done))))) 15 (.ef 11 (.ef 13 (.ef 16 (.ef 17 (.fl 18 .done)))))))))))))))))))) ([_, _]) ([]) mixed (by kernel_rfl) (by kernel_rfl) rfl (perm_all _) (fun w8_ => ?_)
      refine wt_f rfl (f_move rfl) ?_
      refine wt_f rfl (f_move rfl) ?_
      refine wt_f rfl (f_move rfl) ?_
      refine wt_f rfl (f_move rfl) ?_
      refine wt_f rfl (f_move rfl) ?_
      refine wt_f rfl (f_shr rfl rfl (by omega) rfl) ?_
      refine wt_f rfl (f_and rfl rfl hq0) ?_
      refine wt_f rfl (f_move rfl) ?_
      refine wt_f rfl (f_len (len := bl.length) rfl Try.underlying33) ?_
      refine wt_f rfl (f_rem rfl rfl (by omega)) ?_
      refine wt_f rfl (f_eqv (v' := .slice (some ⟨g, 0, .none⟩) (q % bl.length) cb) (f_slice 1 (l := 0) (u := q % bl.length) rfl Try.underlying33 (by kernel_rfl) rfl ⟨_, rfl⟩ (by omega) (by omega)) (by simp)) ?_
      refine wt_f rfl (f_move rfl) ?_
      refine wt_f rfl (f_move rfl) ?_
      refine wt_f rfl (f_move rfl) ?_
      refine wt_two ?_ ?_
      · skip
        refine es_e rfl (e_lit0 t33) ?_
        rintro _ _ w8_11 ⟨b8_11, rfl, rfl⟩
        refine ⟨_, List.perm_middle.symm, ?_⟩
        refine wt_two ?_ ?_
        · skip
          (first | refine es_e rfl (e_appS0 t33 rfl rfl (fun w hh => Rd.held0 hh (i := 1) rfl) (bv_one bl) (by show (0 + bl.length) * 1 ≤ _; omega) (by show 0 + bl.length ≤ _; omega)) ?_ | refine es_e rfl (e_appS1 t33 rfl rfl (fun w hh => Rd.held0 hh (i := 1) rfl) (bv_one bl) (by show (0 + bl.length) * 1 ≤ _; omega) (by show 0 + bl.length ≤ _; omega)) ?_ | refine es_e rfl (e_appS2 t33 rfl rfl (fun w hh => Rd.held0 hh (i := 1) rfl) (bv_one bl) (by show (0 + bl.length) * 1 ≤ _; omega) (by show 0 + bl.length ≤ _; omega)) ?_ | refine es_e rfl (e_appS3 t33 rfl rfl (fun w hh => Rd.held0 hh (i := 1) rfl) (bv_one bl) (by show (0 + bl.length) * 1 ≤ _; omega) (by show 0 + bl.length ≤ _; omega)) ?_)
          rintro _ _ w8_13 ⟨⟨U3, c3, rfl⟩, rfl⟩
          refine ⟨_, List.Perm.refl _, ?_⟩
          refine wt_ef (es_e rfl (e_lit1 (cs := [_]) t33 rfl rfl rfl (by omega)) ?_)
          rintro _ _ w8_15 ⟨b8_15, rfl, rfl⟩
          refine ⟨_, List.perm_middle.symm, ?_⟩
          (first | refine wt_ef (es_e rfl (e_appS0 t33 rfl rfl (fun w hh => (by first | exact Rd.held0 hh (i := 2) rfl | exact Rd.held0 hh (i := 3) rfl)) (by simp [Value.oneCell']) (by show (0 + bl.length + 1) * 1 ≤ _; omega) (by show 0 + bl.length + 1 ≤ _; omega)) ?_) | refine wt_ef (es_e rfl (e_appS1 t33 rfl rfl (fun w hh => (by first | exact Rd.held0 hh (i := 2) rfl | exact Rd.held0 hh (i := 3) rfl)) (by simp [Value.oneCell']) (by show (0 + bl.length + 1) * 1 ≤ _; omega) (by show 0 + bl.length + 1 ≤ _; omega)) ?_) | refine wt_ef (es_e rfl (e_appS2 t33 rfl rfl (fun w hh => (by first | exact Rd.held0 hh (i := 2) rfl | exact Rd.held0 hh (i := 3) rfl)) (by simp [Value.oneCell']) (by show (0 + bl.length + 1) * 1 ≤ _; omega) (by show 0 + bl.length + 1 ≤ _; omega)) ?_) | refine wt_ef (es_e rfl (e_appS3 t33 rfl rfl (fun w hh => (by first | exact Rd.held0 hh (i := 2) rfl | exact Rd.held0 hh (i := 3) rfl)) (by simp [Value.oneCell']) (by show (0 + bl.length + 1) * 1 ≤ _; omega) (by show 0 + bl.length + 1 ≤ _; omega)) ?_))
          rintro _ _ w8_16 ⟨⟨U4, c4, rfl⟩, rfl⟩
          refine ⟨_, List.Perm.refl _, ?_⟩
          refine wt_ef (es_e rfl (e_litrow (e := 33) (sz := 1) rfl (fun w => lit_sl5 _ _ _ _ _ _ _ _ _ _ _ _ _ _ _ w) rfl (by decide)) ?_)
          rintro _ _ w8_17 ⟨b8_17, rfl, rfl⟩
          refine ⟨_, List.perm_middle.symm, ?_⟩
          refine wt_f rfl (f_len rfl Try.underlying45) ?_
          refine wt_endp [(69, _), (70, _), (71, _)] [2, 3, 0, 0] ⟨rfl, rfl, rfl, trivial⟩ rfl ?_
          exact ⟨_, U4, c4, rfl, by rw [Nat.zero_add, bv_app]; rfl⟩
        · skip
          refine es_e rfl (e_lit1 (cs := [_]) t33 rfl rfl rfl (by omega)) ?_
          rintro _ _ w8_15 ⟨b8_15, rfl, rfl⟩
          refine ⟨_, List.perm_middle.symm, ?_⟩
          (first | refine wt_ef (es_e rfl (e_appS0 t33 rfl rfl (fun w hh => Rd.held0 hh (i := 1) rfl) (bv_one bl) (by show (0 + bl.length) * 1 ≤ _; omega) (by show 0 + bl.length ≤ _; omega)) ?_) | refine wt_ef (es_e rfl (e_appS1 t33 rfl rfl (fun w hh => Rd.held0 hh (i := 1) rfl) (bv_one bl) (by show (0 + bl.length) * 1 ≤ _; omega) (by show 0 + bl.length ≤ _; omega)) ?_) | refine wt_ef (es_e rfl (e_appS2 t33 rfl rfl (fun w hh => Rd.held0 hh (i := 1) rfl) (bv_one bl) (by show (0 + bl.length) * 1 ≤ _; omega) (by show 0 + bl.length ≤ _; omega)) ?_) | refine wt_ef (es_e rfl (e_appS3 t33 rfl rfl (fun w hh => Rd.held0 hh (i := 1) rfl) (bv_one bl) (by show (0 + bl.length) * 1 ≤ _; omega) (by show 0 + bl.length ≤ _; omega)) ?_))
          rintro _ _ w8_13 ⟨⟨U3, c3, rfl⟩, rfl⟩
          refine ⟨_, List.Perm.refl _, ?_⟩
          (first | refine wt_ef (es_e rfl (e_appS0 t33 rfl rfl (fun w hh => (by first | exact Rd.held0 hh (i := 2) rfl | exact Rd.held0 hh (i := 3) rfl)) (by simp [Value.oneCell']) (by show (0 + bl.length + 1) * 1 ≤ _; omega) (by show 0 + bl.length + 1 ≤ _; omega)) ?_) | refine wt_ef (es_e rfl (e_appS1 t33 rfl rfl (fun w hh => (by first | exact Rd.held0 hh (i := 2) rfl | exact Rd.held0 hh (i := 3) rfl)) (by simp [Value.oneCell']) (by show (0 + bl.length + 1) * 1 ≤ _; omega) (by show 0 + bl.length + 1 ≤ _; omega)) ?_) | refine wt_ef (es_e rfl (e_appS2 t33 rfl rfl (fun w hh => (by first | exact Rd.held0 hh (i := 2) rfl | exact Rd.held0 hh (i := 3) rfl)) (by simp [Value.oneCell']) (by show (0 + bl.length + 1) * 1 ≤ _; omega) (by show 0 + bl.length + 1 ≤ _; omega)) ?_) | refine wt_ef (es_e rfl (e_appS3 t33 rfl rfl (fun w hh => (by first | exact Rd.held0 hh (i := 2) rfl | exact Rd.held0 hh (i := 3) rfl)) (by simp [Value.oneCell']) (by show (0 + bl.length + 1) * 1 ≤ _; omega) (by show 0 + bl.length + 1 ≤ _; omega)) ?_))
          rintro _ _ w8_16 ⟨⟨U4, c4, rfl⟩, rfl⟩
          refine ⟨_, List.Perm.refl _, ?_⟩
          refine wt_ef (es_e rfl (e_litrow (e := 33) (sz := 1) rfl (fun w => lit_sl5 _ _ _ _ _ _ _ _ _ _ _ _ _ _ _ w) rfl (by decide)) ?_)
          rintro _ _ w8_17 ⟨b8_17, rfl, rfl⟩
          refine ⟨_, List.perm_middle.symm, ?_⟩
          refine wt_f rfl (f_len rfl Try.underlying45) ?_
          refine wt_endp [(69, _), (70, _), (71, _)] [2, 3, 0, 0] ⟨rfl, rfl, rfl, trivial⟩ rfl ?_
          exact ⟨_, U4, c4, rfl, by rw [Nat.zero_add, bv_app]; rfl⟩
      · skip
        refine es_e rfl (e_lit1 (cs := [_]) t33 rfl rfl rfl (by omega)) ?_
        rintro _ _ w8_15 ⟨b8_15, rfl, rfl⟩
        refine ⟨_, List.perm_middle.symm, ?_⟩
        refine wt_ef (es_e rfl (e_lit0 t33) ?_)
        rintro _ _ w8_11 ⟨b8_11, rfl, rfl⟩
        refine ⟨_, List.perm_middle.symm, ?_⟩
        (first | refine wt_ef (es_e rfl (e_appS0 t33 rfl rfl (fun w hh => Rd.held0 hh (i := 1) rfl) (bv_one bl) (by show (0 + bl.length) * 1 ≤ _; omega) (by show 0 + bl.length ≤ _; omega)) ?_) | refine wt_ef (es_e rfl (e_appS1 t33 rfl rfl (fun w hh => Rd.held0 hh (i := 1) rfl) (bv_one bl) (by show (0 + bl.length) * 1 ≤ _; omega) (by show 0 + bl.length ≤ _; omega)) ?_) | refine wt_ef (es_e rfl (e_appS2 t33 rfl rfl (fun w hh => Rd.held0 hh (i := 1) rfl) (bv_one bl) (by show (0 + bl.length) * 1 ≤ _; omega) (by show 0 + bl.length ≤ _; omega)) ?_) | refine wt_ef (es_e rfl (e_appS3 t33 rfl rfl (fun w hh => Rd.held0 hh (i := 1) rfl) (bv_one bl) (by show (0 + bl.length) * 1 ≤ _; omega) (by show 0 + bl.length ≤ _; omega)) ?_))
        rintro _ _ w8_13 ⟨⟨U3, c3, rfl⟩, rfl⟩
        refine ⟨_, List.Perm.refl _, ?_⟩
        (first | refine wt_ef (es_e rfl (e_appS0 t33 rfl rfl (fun w hh => (by first | exact Rd.held0 hh (i := 2) rfl | exact Rd.held0 hh (i := 3) rfl)) (by simp [Value.oneCell']) (by show (0 + bl.length + 1) * 1 ≤ _; omega) (by show 0 + bl.length + 1 ≤ _; omega)) ?_) | refine wt_ef (es_e rfl (e_appS1 t33 rfl rfl (fun w hh => (by first | exact Rd.held0 hh (i := 2) rfl | exact Rd.held0 hh (i := 3) rfl)) (by simp [Value.oneCell']) (by show (0 + bl.length + 1) * 1 ≤ _; omega) (by show 0 + bl.length + 1 ≤ _; omega)) ?_) | refine wt_ef (es_e rfl (e_appS2 t33 rfl rfl (fun w hh => (by first | exact Rd.held0 hh (i := 2) rfl | exact Rd.held0 hh (i := 3) rfl)) (by simp [Value.oneCell']) (by show (0 + bl.length + 1) * 1 ≤ _; omega) (by show 0 + bl.length + 1 ≤ _; omega)) ?_) | refine wt_ef (es_e rfl (e_appS3 t33 rfl rfl (fun w hh => (by first | exact Rd.held0 hh (i := 2) rfl | exact Rd.held0 hh (i := 3) rfl)) (by simp [Value.oneCell']) (by show (0 + bl.length + 1) * 1 ≤ _; omega) (by show 0 + bl.length + 1 ≤ _; omega)) ?_))
        rintro _ _ w8_16 ⟨⟨U4, c4, rfl⟩, rfl⟩
        refine ⟨_, List.Perm.refl _, ?_⟩
        refine wt_ef (es_e rfl (e_litrow (e := 33) (sz := 1) rfl (fun w => lit_sl5 _ _ _ _ _ _ _ _ _ _ _ _ _ _ _ w) rfl (by decide)) ?_)
        rintro _ _ w8_17 ⟨b8_17, rfl, rfl⟩
        refine ⟨_, List.perm_middle.symm, ?_⟩
        refine wt_f rfl (f_len rfl Try.underlying45) ?_
        refine wt_endp [(69, _), (70, _), (71, _)] [2, 2, 0, 0] ⟨rfl, rfl, rfl, trivial⟩ rfl ?_
        exact ⟨_, U4, c4, rfl, by rw [Nat.zero_add, bv_app]; rfl⟩
    rintro _ _ w8 ⟨b5, U4, c4, rfl, rfl⟩
    refine w_block ?_
    have key : ∀ i : Nat, i < 5 → ∃ (A' : Option Addr) (c' : Nat) (xs : List Nat), ([.slice A raw.length c, .slice (some ⟨g, 0, .none⟩) bl.length cb, .slice (some ⟨g2, 0, .none⟩) bl.length cu, .slice (some ⟨g, 0, .none⟩) (q % bl.length) cb, .slice U4 (bl.length + 1) c4] : List Value)[i]? = some (.slice A' xs.length c') ∧
        (∀ w', Holds w Nil [row (.slice (some ⟨b5, 0, .none⟩) 5 5) 33 1 5 [.slice A raw.length c, .slice (some ⟨g, 0, .none⟩) bl.length cb, .slice (some ⟨g2, 0, .none⟩) bl.length cu, .slice (some ⟨g, 0, .none⟩) (q % bl.length) cb, .slice U4 (bl.length + 1) c4],
          row (.slice U4 (bl.length + 1) c4) 5 1 (bl.length + 1) (bv (bl ++ [k])), row (.slice (some ⟨g2, 0, .none⟩) bl.length cu) 5 1 bl.length (bv (bl.set (q % bl.length) k)), row (.slice (some ⟨g, 0, .none⟩) bl.length cb) 5 1 bl.length (bv bl)] w' →
          Rd w' Nil 1 (.slice A' xs.length c') xs.length (bv xs)) ∧ xs.length ≤ 140737488355328 ∧ ∀ b ∈ xs, b < 256 := by
      intro i hi
      match i, hi with
      | 0, _ => exact ⟨A, c, raw, rfl, fun w' hh => hraw.old0 hh, hrn, hrb⟩
      | 1, _ => exact ⟨_, cb, bl, rfl, fun w' hh => Rd.held0 hh (i := 3) rfl, by omega, hevb⟩
      | 2, _ => exact ⟨some ⟨g2, 0, .none⟩, cu, bl.set (q % bl.length) k, by rw [hsl]; rfl, fun w' hh => by rw [hsl]; exact Rd.held0 hh (i := 2) rfl, by rw [hsl]; omega, fun b hb => (List.mem_or_eq_of_mem_set hb).elim (hevb b) (fun e => e ▸ hk)⟩
      | 3, _ =>
        refine ⟨some ⟨g, 0, .none⟩, cb, bl.take (q % bl.length), by rw [List.length_take, Nat.min_eq_left (by omega)]; rfl, fun w' hh => ?_, by rw [List.length_take]; omega, fun b hb => hevb b (List.mem_of_mem_take hb)⟩
        have h := rd_prefix (Rd.held0 hh (i := 3) rfl) rfl (show q % bl.length ≤ bl.length by omega)
        have e : (if cb = 0 then some (⟨g, 0, .none⟩ : Addr) else (some ⟨g, 0, .none⟩ : Option Addr).map (·.add (0 * 1))) = some ⟨g, 0, .none⟩ := by split <;> simp [Addr.add]
        rw [e] at h
        rw [Nat.sub_zero, Nat.sub_zero] at h
        have e2 : (bl.take (q % bl.length)).length = q % bl.length := by rw [List.length_take]; omega
        rw [e2] at h ⊢
        exact h
      | 4, _ => exact ⟨U4, c4, bl ++ [k], by rw [List.length_append]; rfl, fun w' hh => by rw [List.length_append]; exact Rd.held0 hh (i := 1) rfl, by rw [List.length_append]; simp; omega, fun b hb => (List.mem_append.1 hb).elim (hevb b) (fun h => by simp at h; omega)⟩
      | i + 5, h => omega
    generalize hVs : ([.slice A raw.length c, .slice (some ⟨g, 0, .none⟩) bl.length cb, .slice (some ⟨g2, 0, .none⟩) bl.length cu, .slice (some ⟨g, 0, .none⟩) (q % bl.length) cb, .slice U4 (bl.length + 1) c4] : List Value) = Vs at key ⊢
    refine w_loop (fun z m H w' => ∃ i : Nat, m = [(69, .slice (some ⟨b5, 0, .none⟩) 5 5), (70, .int .i64 5), (71, .int .i64 i)] ∧
      H = [row (.slice (some ⟨b5, 0, .none⟩) 5 5) 33 1 5 Vs, row (.slice U4 (bl.length + 1) c4) 5 1 (bl.length + 1) (bv (bl ++ [k])), row (.slice (some ⟨g2, 0, .none⟩) bl.length cu) 5 1 bl.length (bv (bl.set (q % bl.length) k)), row (.slice (some ⟨g, 0, .none⟩) bl.length cb) 5 1 bl.length (bv bl)] ∧ z + i = 5) 5
      ⟨0, rfl, rfl, rfl⟩ ?_
    rintro z _ _ w9 ⟨i, rfl, rfl, hz⟩
    refine w_seq ?_
    refine w_reg ?_
    refine wl_f (f_lss rfl rfl) ?_
    refine wl_end [(69, _), (70, _), (71, _), (72, _)] ⟨rfl, rfl, rfl, rfl, trivial⟩ ?_
    refine w_seq ?_
    refine w_ifd rfl (fun hc3 => ?_) (fun hc3 => ?_)
    · skip
      obtain ⟨A', c', xs, hxv, hxr, hxn, hxb⟩ := key i (by omega)
      have hdl := decF_len xs
      refine w_skip ?_
      refine w_seq ?_
      refine w_block ?_
      refine w_seq ?_
      refine w_reg ?_
      refine wl_f (f_indexAddr 1 rfl rfl Try.underlying45 (by kernel_rfl) rfl (by omega)) ?_
      refine wl_f (f_loadr (v := .slice A' xs.length c') 0 rfl Try.underlying33 rfl rfl (by simpa using hxv)) ?_
      refine wl_f (f_assign rfl) ?_
      refine wl_end [(13, _), (69, _), (70, _), (71, _)] ⟨rfl, rfl, rfl, rfl, trivial⟩ ?_
      refine w_seq ?_
      refine w_reg ?_
      refine wl_f (f_move rfl) ?_
      refine wl_e (e_call0 rfl Try.func24 (by kernel_rfl) (fun w hh => decode_spec _ xs w (hxr w hh) hxn hxb)) ?_
      rintro _ _ w10 ⟨_, rfl, tv1, rfl, rfl⟩
      refine wl_with fun hh => ?_
      obtain ⟨A1, k1, rfl⟩ := row_slice hh (i := 0) rfl
      clear hh
      refine wl_f (f_move rfl) ?_
      refine wl_f (f_extract rfl rfl) ?_
      refine wl_f (f_extract rfl rfl) ?_
      refine wl_f (f_extract rfl rfl) ?_
      refine wl_e (e_allocs [.slice .none 0 0, .int .i64 0, .int .u64 0] (by kernel_rfl)) ?_
      rintro _ _ w11_6 ⟨b11_6, rfl, rfl⟩
      (first | refine wl_e0 (e_store0 (us := [_, _, _]) rfl rfl rfl (by kernel_rfl) (by simp [Value.oneCell']) rfl rfl) ?_ | refine wl_e0 (e_store1 (us := [_, _, _]) rfl rfl rfl (by kernel_rfl) (by simp [Value.oneCell']) rfl rfl) ?_ | refine wl_e0 (e_store2 (us := [_, _, _]) rfl rfl rfl (by kernel_rfl) (by simp [Value.oneCell']) rfl rfl) ?_ | refine wl_e0 (e_store3 (us := [_, _, _]) rfl rfl rfl (by kernel_rfl) (by simp [Value.oneCell']) rfl rfl) ?_)
      rintro _ _ w11_7 rfl
      refine wl_f (f_assign rfl) ?_
      refine wl_f (f_assign rfl) ?_
      refine wl_end [(13, _), (14, _), (15, _), (16, _), (69, _), (70, _), (71, _)] ⟨rfl, rfl, rfl, rfl, rfl, rfl, rfl, trivial⟩ ?_
      refine w_seq ?_
      refine w_reg ?_
      refine wl_f (f_move rfl) ?_
      refine wl_e (e_call0 rfl Try.func25 (by kernel_rfl) (fun w hh => rdecode_spec _ xs w (hxr w (hh.drop_ (List.Sublist.cons _ (List.sublist_cons_self ..)))) hxn hxb)) ?_
      rintro _ _ w11 ⟨_, rfl, tv2, rfl, rfl⟩
      refine wl_with fun hh => ?_
      obtain ⟨A2, k2, rfl⟩ := row_slice hh (i := 0) rfl
      clear hh
      refine wl_f (f_move rfl) ?_
      refine wl_f (f_extract rfl rfl) ?_
      refine wl_f (f_extract rfl rfl) ?_
      refine wl_f (f_extract rfl rfl) ?_
      refine wl_e (e_allocs [.slice .none 0 0, .int .i64 0, .int .u64 0] (by kernel_rfl)) ?_
      rintro _ _ w12_6 ⟨b12_6, rfl, rfl⟩
      (first | refine wl_e0 (e_store0 (us := [_, _, _]) rfl rfl rfl (by kernel_rfl) (by simp [Value.oneCell']) rfl rfl) ?_ | refine wl_e0 (e_store1 (us := [_, _, _]) rfl rfl rfl (by kernel_rfl) (by simp [Value.oneCell']) rfl rfl) ?_ | refine wl_e0 (e_store2 (us := [_, _, _]) rfl rfl rfl (by kernel_rfl) (by simp [Value.oneCell']) rfl rfl) ?_ | refine wl_e0 (e_store3 (us := [_, _, _]) rfl rfl rfl (by kernel_rfl) (by simp [Value.oneCell']) rfl rfl) ?_)
      rintro _ _ w12_7 rfl
      refine wl_f (f_assign rfl) ?_
      refine wl_f (f_assign rfl) ?_
      refine wl_end [(14, _), (15, _), (16, _), (17, _), (18, _), (19, _), (69, _), (70, _), (71, _)] ⟨rfl, rfl, rfl, rfl, rfl, rfl, rfl, rfl, rfl, trivial⟩ ?_
      refine w_seq ?_
      refine w_reg ?_
      (first | refine wl_f (f_loadsb (cs := [_, _, _]) 0 rfl Try.underlying25 rfl (by kernel_rfl) rfl rfl) ?_ | refine wl_f (f_loadsb (cs := [_, _, _]) 1 rfl Try.underlying25 rfl (by kernel_rfl) rfl rfl) ?_ | refine wl_f (f_loadsb (cs := [_, _, _]) 2 rfl Try.underlying25 rfl (by kernel_rfl) rfl rfl) ?_ | refine wl_f (f_loadsb (cs := [_, _, _]) 3 rfl Try.underlying25 rfl (by kernel_rfl) rfl rfl) ?_ | refine wl_f (f_loadsb (cs := [_, _, _]) 4 rfl Try.underlying25 rfl (by kernel_rfl) rfl rfl) ?_ | refine wl_f (f_loadsb (cs := [_, _, _]) 5 rfl Try.underlying25 rfl (by kernel_rfl) rfl rfl) ?_ | refine wl_f (f_loadsb (cs := [_, _, _]) 6 rfl Try.underlying25 rfl (by kernel_rfl) rfl rfl) ?_)
      (first | refine wl_f (f_loadsb (cs := [_, _, _]) 0 rfl Try.underlying25 rfl (by kernel_rfl) rfl rfl) ?_ | refine wl_f (f_loadsb (cs := [_, _, _]) 1 rfl Try.underlying25 rfl (by kernel_rfl) rfl rfl) ?_ | refine wl_f (f_loadsb (cs := [_, _, _]) 2 rfl Try.underlying25 rfl (by kernel_rfl) rfl rfl) ?_ | refine wl_f (f_loadsb (cs := [_, _, _]) 3 rfl Try.underlying25 rfl (by kernel_rfl) rfl rfl) ?_ | refine wl_f (f_loadsb (cs := [_, _, _]) 4 rfl Try.underlying25 rfl (by kernel_rfl) rfl rfl) ?_ | refine wl_f (f_loadsb (cs := [_, _, _]) 5 rfl Try.underlying25 rfl (by kernel_rfl) rfl rfl) ?_ | refine wl_f (f_loadsb (cs := [_, _, _]) 6 rfl Try.underlying25 rfl (by kernel_rfl) rfl rfl) ?_)
      refine wl_e (e_call0 rfl Try.func26 (by kernel_rfl) (fun w hh => sameEvent_spec _ _ (decF xs).1.1 (decF xs).1.1 _ _ _ _ w (Rd.held0 hh (i := 3) rfl) (Rd.held0 hh (i := 1) rfl) (by omega) (by omega))) ?_
      rintro _ _ w12 ⟨_, rfl, rfl, rfl⟩
      refine wl_f (f_not rfl rfl) ?_
      refine wl_f (f_move rfl) ?_
      refine wl_or (j := 4) (c := decide (((decF xs).1.2.2.2 : Int) ≠ ((decF xs).1.2.2.2 : Int))) 3 [(16, _), (19, _), (69, _), (70, _), (71, _)] ⟨rfl, rfl, rfl, rfl, rfl, trivial⟩ rfl rfl rfl rfl rfl (fun hg13_8 => ?_) (fun w13_8 => ?_)
      · skip
        refine wl_gf rfl rfl (f_move rfl) ?_
        refine wl_gf rfl rfl (f_move rfl) ?_
        refine wl_gf rfl rfl (f_neq rfl rfl) ?_
        exact wl_pend rfl rfl ⟨rfl, rfl, rfl, rfl, rfl, trivial⟩ (List.Sublist.refl _)
      refine wl_f (f_move rfl) ?_
      refine wl_or (j := 9) (c := decide ((decF xs).2 ≠ (decF xs).2)) 3 [(69, _), (70, _), (71, _)] ⟨rfl, rfl, rfl, trivial⟩ rfl rfl rfl rfl rfl (fun hg13_13 => ?_) (fun w13_13 => ?_)
      · skip
        refine wl_gf rfl rfl (f_move rfl) ?_
        refine wl_gf rfl rfl (f_move rfl) ?_
        refine wl_gf rfl rfl (f_neq rfl rfl) ?_
        exact wl_pend rfl rfl ⟨rfl, rfl, rfl, trivial⟩ (List.Sublist.refl _)
      refine wl_pick [4, 4, 4, 4] rfl ?_
      refine wl_end [(69, _), (70, _), (71, _), (100, _)] ⟨rfl, rfl, rfl, rfl, trivial⟩ ?_
      refine w_ifb rfl (fun h => absurd h (by simp)) (fun _ => ?_)
      refine w_skip ?_
      refine w_reg ?_
      refine wl_f (f_add rfl rfl (by omega)) ?_
      refine wl_f (f_move rfl) ?_
      refine wl_end [(69, _), (70, _), (71, _)] ⟨rfl, rfl, rfl, trivial⟩ ?_
      exact ⟨z - 1, by omega, i + 1, rfl, rfl, by omega⟩
    · skip
      refine w_exit0 ?_
      refine w_seq ?_
      refine w_reg ?_
      refine wl_e (e_call0 rfl Try.func16 (by kernel_rfl) (fun w hh => awake_spec w)) ?_
      rintro _ _ w2 ⟨_, rfl, rfl, rfl⟩
      refine wl_f (f_assign rfl) ?_
      refine wl_end [(8, _)] ⟨rfl, trivial⟩ ?_
      refine w_ret ?_
      refine ⟨_, _, fun a ha hh => results_tmps Try.results5 rfl a ha _, List.Sublist.refl _, ?_⟩
      rfl
end Go.Proofs.Ythomfpfjcniknaa
