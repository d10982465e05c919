/- The law EventBack: the call returns true. -/
import Derived.Test.YthomfpfjcniknaaD24
import Derived.Test.YthomfpfjcniknaaK9
namespace Go.Proofs.Ythomfpfjcniknaa
open Go.RowKit

theorem lit_ev2 (A1 A2 : Option Addr) (l1 l2 c1 c2 : Nat) (t1 t2 u1 u2 : Int) (w : World) :
    (Instr.buildSlice 36 2 [(0, .agg [.slice A1 l1 c1, .int .i64 t1, .int .u64 u1].toArray), (1, .agg [.slice A2 l2 c2, .int .i64 t2, .int .u64 u2].toArray)].toArray).run Try.prog w =
      .ok (.slice (some ⟨w.heap.size, 0, .none⟩) 2 2) (w.alloc (.cells [.slice A1 l1 c1, .int .i64 t1, .int .u64 u1, .slice A2 l2 c2, .int .i64 t2, .int .u64 u2].toArray 25)) := by kernel_rfl
theorem tagsB_short : ∀ (l : List Tg), (∀ x ∈ l, x.1.size ≤ 200 ∧ x.2.size ≤ 200) → (tagsB l).length ≤ l.length * 422
  | [], _ => by simp [tagsB]
  | t :: l, h => by
    have h1 := h t (List.mem_cons_self ..)
    have h2 := tagsB_short l fun x hx => h x (List.mem_cons_of_mem _ hx)
    have h3 := venc_len t.1.size; have h4 := venc_len t.2.size
    simp only [tagsB, tagB, List.length_append, List.length_cons, sb_len]
    omega
theorem encEv_short {tags : List Tg} {t : Int} {wt : Nat} (h : ∀ x ∈ tags, x.1.size ≤ 200 ∧ x.2.size ≤ 200) : (encEv tags t wt).1.length ≤ 3409 := by
  unfold encEv
  split
  · simp
  split
  · simp
  split
  · have h1 := tagsB_short tags h
    have h2 := venc_len t.toNat; have h3 := venc_len wt; have h4 := venc_len tags.length
    simp only [List.length_append]
    omega
  · simp
theorem encEv_bytes {tags : List Tg} {t : Int} {wt : Nat} (h : wt < 18446744073709551616) : ∀ b ∈ (encEv tags t wt).1, b < 256 := encEv_lt tags t wt h

set_option maxHeartbeats 4000000 in
theorem eventBack_spec (sl : Value) (tags : List Tg) (t : Int) (wt : Nat) (D : Option Addr) (dc : Nat) (L : List Int) (A : Option Addr) (c : Nat) (after : List Nat) (w : World)
    (hx : Rd w Nil 2 sl tags.length (tcells tags)) (hxn : tags.length ≤ 140737488355328) (ht : -9223372036854775808 ≤ t ∧ t ≤ 9223372036854775807) (hwt : wt < 18446744073709551616)
    (hd : Rd w Nil 1 (.slice D L.length dc) L.length (iv L)) (hL : L.length ≤ 140737488355328) (ha : Rd w Nil 1 (.slice A after.length c) after.length (bv after)) (han : after.length ≤ 140737488351232) (hab : ∀ b ∈ after, b < 256) :
    Spec Try.prog 6 [.agg #[sl, .int .i64 t, .int .u64 wt], .slice D L.length dc, .slice A after.length c] w Nil fun r _ => r = .bool true := by
  obtain ⟨Ax, cx, rfl, hxl, hxc, hxA⟩ := id hx
  refine enter (n := 74) Try.func6 rfl rfl [(0, _), (1, _), (2, _)] rfl ⟨rfl, rfl, rfl, trivial⟩ (Holds.start _ _) ?_
  refine w_seq ?_
  refine w_reg ?_
  refine wl_e (e_box (cs := [_, _, _]) rfl rfl) ?_
  rintro _ _ w0_0 ⟨b0_0, rfl, rfl⟩
  refine wl_f (f_assign rfl) ?_
  refine wl_end [(1, _), (2, _), (3, _)] ⟨rfl, rfl, rfl, trivial⟩ ?_
  refine w_seq ?_
  refine w_seq ?_
  refine w_reg ?_
  (first | refine wl_f (f_loadsb (cs := [_, _, _]) 0 rfl Try.underlying25 rfl (by kernel_rfl) rfl rfl) ?_ | refine wl_f (f_loadsb (cs := [_, _, _]) 1 rfl Try.underlying25 rfl (by kernel_rfl) rfl rfl) ?_ | refine wl_f (f_loadsb (cs := [_, _, _]) 2 rfl Try.underlying25 rfl (by kernel_rfl) rfl rfl) ?_ | refine wl_f (f_loadsb (cs := [_, _, _]) 3 rfl Try.underlying25 rfl (by kernel_rfl) rfl rfl) ?_ | refine wl_f (f_loadsb (cs := [_, _, _]) 4 rfl Try.underlying25 rfl (by kernel_rfl) rfl rfl) ?_ | refine wl_f (f_loadsb (cs := [_, _, _]) 5 rfl Try.underlying25 rfl (by kernel_rfl) rfl rfl) ?_ | refine wl_f (f_loadsb (cs := [_, _, _]) 6 rfl Try.underlying25 rfl (by kernel_rfl) rfl rfl) ?_)
  refine wl_e (e_call0 rfl Try.func15 (by kernel_rfl) (fun w hh => plain_spec _ tags t wt w (hx.old0 hh) (by omega))) ?_
  rintro _ _ w1 ⟨_, rfl, pb, rfl, hpb, rfl⟩
  refine wl_f (f_not rfl rfl) ?_
  refine wl_end [(1, _), (2, _), (3, _), (18, _)] ⟨rfl, rfl, rfl, rfl, trivial⟩ ?_
  refine w_ifb rfl (fun hc1 => ?_) (fun hc1 => ?_)
  · skip
    refine w_seq ?_
    refine w_reg ?_
    refine wl_e (e_call0 rfl Try.func16 (by kernel_rfl) (fun w hh => awake_spec w)) ?_
    rintro _ _ w2 ⟨_, rfl, rfl, rfl⟩
    refine wl_f (f_assign rfl) ?_
    refine wl_end [(6, _)] ⟨rfl, trivial⟩ ?_
    refine w_ret ?_
    refine ⟨_, _, fun a ha hh => results_tmps Try.results6 rfl a ha _, List.Sublist.refl _, ?_⟩
    rfl
  · skip
    obtain ⟨hp1, hp2⟩ := hpb (by simpa using hc1)
    refine w_skip ?_
    refine w_seq ?_
    refine w_seq ?_
    refine w_draw [(0, true), (1, true), (6, true), (2, false), (3, false), (4, false), (5, true)] ([_]) ([]) mixed (by kernel_rfl) (by kernel_rfl) rfl (perm_all _) (fun w3_ => ?_)
    (first | refine wd_f rfl (f_loadsb (cs := [_, _, _]) 0 rfl Try.underlying25 rfl (by kernel_rfl) rfl rfl) ?_ | refine wd_f rfl (f_loadsb (cs := [_, _, _]) 1 rfl Try.underlying25 rfl (by kernel_rfl) rfl rfl) ?_ | refine wd_f rfl (f_loadsb (cs := [_, _, _]) 2 rfl Try.underlying25 rfl (by kernel_rfl) rfl rfl) ?_ | refine wd_f rfl (f_loadsb (cs := [_, _, _]) 3 rfl Try.underlying25 rfl (by kernel_rfl) rfl rfl) ?_ | refine wd_f rfl (f_loadsb (cs := [_, _, _]) 4 rfl Try.underlying25 rfl (by kernel_rfl) rfl rfl) ?_ | refine wd_f rfl (f_loadsb (cs := [_, _, _]) 5 rfl Try.underlying25 rfl (by kernel_rfl) rfl rfl) ?_ | refine wd_f rfl (f_loadsb (cs := [_, _, _]) 6 rfl Try.underlying25 rfl (by kernel_rfl) rfl rfl) ?_)
    refine wd_f rfl (f_move rfl) ?_
    refine wd_f rfl (f_move rfl) ?_
    refine wd_e rfl (e_call0 rfl Try.func17 (by kernel_rfl) (fun w hh => new_spec D _ dc w)) ?_
    rintro _ _ w3 ⟨_, rfl, b3, rfl, rfl⟩
    refine ⟨_, List.Perm.swap .., ?_⟩
    refine wd_e rfl (Eff.held <| e_call1 (deck b3 (.slice D L.length dc) 0) [_] rfl Try.func18 (by kernel_rfl) (List.Perm.swap ..) (fun w hh hs' => event_spec b3 _ L 0 77 w ⟨hd.old1 hh (Hr := [_]) (List.Perm.swap ..), hL, Nat.zero_le _⟩ hs')) ?_
    rintro _ _ w4 ⟨⟨w4', hh⟩, _, rfl, sly, ty, wy, p1, rfl, hty, hwy, rfl, hp1'⟩
    obtain ⟨Ay, cy, rfl⟩ := row_slice hh (i := 0) rfl
    clear hh
    refine ⟨_, List.perm_append_comm_assoc [_, _] [_] [], ?_⟩
    refine wd_e rfl (e_litrow (e := 25) (sz := 3) rfl (fun w => lit_ev2 _ _ _ _ _ _ _ _ _ _ w) rfl (by decide)) ?_
    rintro _ _ w3_4 ⟨b3_4, rfl, rfl⟩
    refine ⟨_, List.perm_middle.symm, ?_⟩
    refine wd_f rfl (f_len rfl Try.underlying36) ?_
    refine wd_endp [(1, _), (2, _), (24, _), (25, _), (26, _)] [1, 1] ⟨rfl, rfl, rfl, rfl, rfl, trivial⟩ rfl ?_
    refine w_block ?_
    refine w_loop (fun z m H w' => ∃ i : Nat, m = [(1, .slice D L.length dc), (2, .slice A after.length c), (24, .slice (some ⟨b3_4, 0, .none⟩) 2 2), (25, .int .i64 2), (26, .int .i64 i)] ∧
      H = [row (.slice (some ⟨b3_4, 0, .none⟩) 2 2) 25 3 2 [.slice Ax tags.length cx, .int .i64 t, .int .u64 wt, .slice Ay ty.length cy, .int .i64 77, .int .u64 wy], row (.slice Ay ty.length cy) 35 2 ty.length (tcells ty)] ∧ z + i = 2) 2 ⟨0, rfl, rfl, rfl⟩ ?_
    rintro z _ _ w5 ⟨i, rfl, rfl, hz⟩
    refine w_seq ?_
    refine w_reg ?_
    refine wl_f (f_lss rfl rfl) ?_
    refine wl_end [(1, _), (2, _), (24, _), (25, _), (26, _), (27, _)] ⟨rfl, rfl, rfl, rfl, rfl, rfl, trivial⟩ ?_
    refine w_seq ?_
    refine w_ifd rfl (fun hc2 => ?_) (fun hc2 => ?_)
    · skip
      obtain ⟨sl', tags', t', wt', hev, hrd', hn', hsz', ht', hwt'⟩ : ∃ (sl' : Value) (tags' : List Tg) (t' : Int) (wt' : Nat),
          (([.slice Ax tags.length cx, .int .i64 t, .int .u64 wt, .slice Ay ty.length cy, .int .i64 77, .int .u64 wy] : List Value).drop (0 + i * 3)).take [sl', Value.int .i64 t', Value.int .u64 wt'].length = [sl', .int .i64 t', .int .u64 wt'] ∧
          (∀ w', Holds w Nil [row (.slice (some ⟨b3_4, 0, .none⟩) 2 2) 25 3 2 [.slice Ax tags.length cx, .int .i64 t, .int .u64 wt, .slice Ay ty.length cy, .int .i64 77, .int .u64 wy], row (.slice Ay ty.length cy) 35 2 ty.length (tcells ty)] w' → Rd w' Nil 2 sl' tags'.length (tcells tags')) ∧
          tags'.length ≤ 1000000 ∧ (∀ x ∈ tags', x.1.size ≤ 200 ∧ x.2.size ≤ 200) ∧ (-9223372036854775808 ≤ t' ∧ t' ≤ 9223372036854775807) ∧ wt' < 18446744073709551616 := by
        match i, hc2 with
        | 0, _ => exact ⟨_, tags, t, wt, rfl, fun w' hh => hx.old0 hh, by omega, hp2, ht, hwt⟩
        | 1, _ => exact ⟨_, ty, 77, wy, rfl, fun w' hh => Rd.held0 hh (i := 1) rfl, by have := hty.1; omega, fun x hx => by have := hty.2 x hx; omega, by omega, hwy⟩
        | i + 2, h => omega
      refine w_skip ?_
      refine w_seq ?_
      refine w_post (fun m H w' => m = [(1, .slice D L.length dc), (2, .slice A after.length c), (24, .slice (some ⟨b3_4, 0, .none⟩) 2 2), (25, .int .i64 2), (26, .int .i64 i)] ∧ H = [row (.slice (some ⟨b3_4, 0, .none⟩) 2 2) 25 3 2 [.slice Ax tags.length cx, .int .i64 t, .int .u64 wt, .slice Ay ty.length cy, .int .i64 77, .int .u64 wy], row (.slice Ay ty.length cy) 35 2 ty.length (tcells ty)]) ?_ ?_
      · skip
        refine w_block ?_
        refine w_seq ?_
        refine w_reg ?_
        refine wl_f (f_indexAddr 3 rfl rfl Try.underlying36 (by kernel_rfl) rfl (by omega)) ?_
        refine wl_f (f_loadsr (cs := [sl', .int .i64 t', .int .u64 wt']) 0 rfl Try.underlying25 rfl (by kernel_rfl) rfl hev) ?_
        refine wl_e (e_allocs [.slice .none 0 0, .int .i64 0, .int .u64 0] (by kernel_rfl)) ?_
        rintro _ _ w5_2 ⟨b5_2, rfl, rfl⟩
        refine wl_with fun hh => ?_
        obtain ⟨A', c', rfl⟩ : ∃ A' c', sl' = .slice A' tags'.length c' := by
          obtain ⟨A', c', h, _⟩ := hrd' _ (hh.drop_ (List.sublist_cons_self ..))
          exact ⟨A', c', h⟩
        clear hh
        (first | refine wl_e0 (e_store0 (us := [_, _, _]) rfl rfl rfl (by kernel_rfl) (by simp [Value.oneCell']) rfl rfl) ?_ | refine wl_e0 (e_store1 (us := [_, _, _]) rfl rfl rfl (by kernel_rfl) (by simp [Value.oneCell']) rfl rfl) ?_ | refine wl_e0 (e_store2 (us := [_, _, _]) rfl rfl rfl (by kernel_rfl) (by simp [Value.oneCell']) rfl rfl) ?_ | refine wl_e0 (e_store3 (us := [_, _, _]) rfl rfl rfl (by kernel_rfl) (by simp [Value.oneCell']) rfl rfl) ?_)
        rintro _ _ w5_3 rfl
        refine wl_end [(1, _), (2, _), (8, _), (24, _), (25, _), (26, _)] ⟨rfl, rfl, rfl, rfl, rfl, rfl, trivial⟩ ?_
        refine w_seq ?_
        refine w_reg ?_
        (first | refine wl_f (f_loadsb (cs := [_, _, _]) 0 rfl Try.underlying25 rfl (by kernel_rfl) rfl rfl) ?_ | refine wl_f (f_loadsb (cs := [_, _, _]) 1 rfl Try.underlying25 rfl (by kernel_rfl) rfl rfl) ?_ | refine wl_f (f_loadsb (cs := [_, _, _]) 2 rfl Try.underlying25 rfl (by kernel_rfl) rfl rfl) ?_ | refine wl_f (f_loadsb (cs := [_, _, _]) 3 rfl Try.underlying25 rfl (by kernel_rfl) rfl rfl) ?_ | refine wl_f (f_loadsb (cs := [_, _, _]) 4 rfl Try.underlying25 rfl (by kernel_rfl) rfl rfl) ?_ | refine wl_f (f_loadsb (cs := [_, _, _]) 5 rfl Try.underlying25 rfl (by kernel_rfl) rfl rfl) ?_ | refine wl_f (f_loadsb (cs := [_, _, _]) 6 rfl Try.underlying25 rfl (by kernel_rfl) rfl rfl) ?_)
        refine wl_e (e_call0 rfl Try.func19 (by kernel_rfl) (fun w hh => encode_spec _ tags' t' wt' w (hrd' w (hh.drop_ (List.sublist_cons_self ..))) hn' ht' hwt')) ?_
        rintro _ _ w6 ⟨_, rfl, va, rfl, rfl, hla⟩
        have hbb := encEv_bytes (tags := tags') (t := t') hwt'
        have hdec := fun bl h => decF_enc (tags := tags') (t := t') (bl := bl) after h hwt'
        have hsh := encEv_short (t := t') (wt := wt') hsz'
        generalize encEv tags' t' wt' = E at hla hbb hdec hsh ⊢
        obtain ⟨bl, e⟩ := E
        dsimp only at hla hbb hdec hsh ⊢
        refine wl_with fun hh => ?_
        obtain ⟨A6, c6, rfl⟩ := row_slice hh (i := 0) rfl
        clear hh
        refine wl_f (f_move rfl) ?_
        refine wl_f (f_extract rfl rfl) ?_
        refine wl_f (f_extract rfl rfl) ?_
        refine wl_f (f_assign rfl) ?_
        refine wl_f (f_assign rfl) ?_
        refine wl_end [(1, _), (2, _), (8, _), (9, _), (10, _), (24, _), (25, _), (26, _)] ⟨rfl, rfl, rfl, rfl, rfl, rfl, rfl, rfl, trivial⟩ ?_
        refine w_seq ?_
        refine w_seq ?_
        refine w_reg ?_
        refine wl_f (f_move rfl) ?_
        refine wl_f (f_neq rfl rfl) ?_
        refine wl_end [(1, _), (2, _), (8, _), (9, _), (24, _), (25, _), (26, _), (36, _)] ⟨rfl, rfl, rfl, rfl, rfl, rfl, rfl, rfl, trivial⟩ ?_
        refine w_ifd rfl (fun hc3 => ?_) (fun hc3 => ?_)
        · skip
          refine w_sub [(1, _), (2, _), (24, _), (25, _), (26, _)] ⟨rfl, rfl, rfl, rfl, rfl, trivial⟩ (w_pick [2, 2] rfl ?_)
          refine w_exit0 ?_
          exact ⟨rfl, rfl⟩
        · skip
          obtain rfl : e = 0 := by simpa using hc3
          obtain ⟨hdec, ht0⟩ := hdec bl rfl
          have hbl : ∀ b ∈ bl ++ after, b < 256 := fun b hb => (List.mem_append.1 hb).elim (hbb b) (hab b)
          refine w_skip ?_
          refine w_seq ?_
          refine w_reg ?_
          refine wl_e (e_lit0 t33) ?_
          rintro _ _ w8_0 ⟨b8_0, rfl, rfl⟩
          refine wl_f (f_move rfl) ?_
          refine wl_e (e_appS0 t33 rfl rfl (fun w hh => Rd.held0 hh (i := 1) rfl) (bv_one bl) (by omega) (by omega)) ?_
          rintro _ _ w7 ⟨⟨U, cu, rfl⟩, rfl⟩
          rw [Nat.zero_add, List.nil_append]
          refine wl_f (f_move rfl) ?_
          refine wl_e (e_appS0 t33 rfl rfl (fun w hh => ha.old0 hh) (bv_one after) (by omega) (by omega)) ?_
          rintro _ _ w8 ⟨⟨U2, cu2, rfl⟩, rfl⟩
          rw [← bv_app, ← List.length_append]
          refine wl_e (e_call0 rfl Try.func24 (by kernel_rfl) (fun w hh => decode_spec _ (bl ++ after) w (Rd.held0 hh (i := 0) rfl) (by rw [List.length_append]; omega) hbl)) ?_
          rintro _ _ w9 ⟨_, rfl, tv, rfl, rfl⟩
          rw [hdec]
          dsimp only
          refine wl_with fun hh => ?_
          obtain ⟨A9, c9, rfl⟩ := row_slice hh (i := 0) rfl
          clear hh
          refine wl_f (f_move rfl) ?_
          refine wl_f (f_extract rfl rfl) ?_
          refine wl_f (f_extract rfl rfl) ?_
          refine wl_f (f_extract rfl rfl) ?_
          refine wl_e (e_allocs [.slice .none 0 0, .int .i64 0, .int .u64 0] (by kernel_rfl)) ?_
          rintro _ _ w8_10 ⟨b8_10, rfl, rfl⟩
          (first | refine wl_e0 (e_store0 (us := [_, _, _]) rfl rfl rfl (by kernel_rfl) (by simp [Value.oneCell']) rfl rfl) ?_ | refine wl_e0 (e_store1 (us := [_, _, _]) rfl rfl rfl (by kernel_rfl) (by simp [Value.oneCell']) rfl rfl) ?_ | refine wl_e0 (e_store2 (us := [_, _, _]) rfl rfl rfl (by kernel_rfl) (by simp [Value.oneCell']) rfl rfl) ?_ | refine wl_e0 (e_store3 (us := [_, _, _]) rfl rfl rfl (by kernel_rfl) (by simp [Value.oneCell']) rfl rfl) ?_)
          rintro _ _ w8_11 rfl
          refine wl_f (f_assign rfl) ?_
          refine wl_f (f_assign rfl) ?_
          refine wl_end [(1, _), (2, _), (8, _), (9, _), (11, _), (12, _), (13, _), (24, _), (25, _), (26, _)] ⟨rfl, rfl, rfl, rfl, rfl, rfl, rfl, rfl, rfl, rfl, trivial⟩ ?_
          refine w_seq ?_
          refine w_reg ?_
          refine wl_f (f_move rfl) ?_
          refine wl_f (f_neq rfl rfl) ?_
          refine wl_f (f_move rfl) ?_
          refine wl_or (j := 2) (c := decide ((bl.length : Int) ≠ (bl.length : Int))) 4 [(1, _), (2, _), (8, _), (11, _), (24, _), (25, _), (26, _)] ⟨rfl, rfl, rfl, rfl, rfl, rfl, rfl, trivial⟩ rfl rfl rfl rfl rfl (fun hg9_7 => ?_) (fun w9_7 => ?_)
          · skip
            refine wl_gf rfl rfl (f_move rfl) ?_
            refine wl_gf rfl rfl (f_move rfl) ?_
            refine wl_gf rfl rfl (f_len rfl Try.underlying33) ?_
            refine wl_gf rfl rfl (f_neq rfl rfl) ?_
            exact wl_pend rfl rfl ⟨rfl, rfl, rfl, rfl, rfl, rfl, rfl, trivial⟩ (List.Sublist.refl _)
          refine wl_f (f_move rfl) ?_
          refine wl_or (j := 8) (c := !(decide (tags' = tags') && decide (t' = (t'.toNat : Int)) && decide ((wt' : Int) = (wt' : Int)))) 4 [(1, _), (2, _), (24, _), (25, _), (26, _)] ⟨rfl, rfl, rfl, rfl, rfl, trivial⟩ rfl rfl rfl rfl rfl (fun hg9_13 => ?_) (fun w9_13 => ?_)
          · skip
            (first | refine wl_gf rfl rfl (f_loadsb (cs := [_, _, _]) 0 rfl Try.underlying25 rfl (by kernel_rfl) rfl rfl) ?_ | refine wl_gf rfl rfl (f_loadsb (cs := [_, _, _]) 1 rfl Try.underlying25 rfl (by kernel_rfl) rfl rfl) ?_ | refine wl_gf rfl rfl (f_loadsb (cs := [_, _, _]) 2 rfl Try.underlying25 rfl (by kernel_rfl) rfl rfl) ?_ | refine wl_gf rfl rfl (f_loadsb (cs := [_, _, _]) 3 rfl Try.underlying25 rfl (by kernel_rfl) rfl rfl) ?_ | refine wl_gf rfl rfl (f_loadsb (cs := [_, _, _]) 4 rfl Try.underlying25 rfl (by kernel_rfl) rfl rfl) ?_ | refine wl_gf rfl rfl (f_loadsb (cs := [_, _, _]) 5 rfl Try.underlying25 rfl (by kernel_rfl) rfl rfl) ?_ | refine wl_gf rfl rfl (f_loadsb (cs := [_, _, _]) 6 rfl Try.underlying25 rfl (by kernel_rfl) rfl rfl) ?_)
            (first | refine wl_gf rfl rfl (f_loadsb (cs := [_, _, _]) 0 rfl Try.underlying25 rfl (by kernel_rfl) rfl rfl) ?_ | refine wl_gf rfl rfl (f_loadsb (cs := [_, _, _]) 1 rfl Try.underlying25 rfl (by kernel_rfl) rfl rfl) ?_ | refine wl_gf rfl rfl (f_loadsb (cs := [_, _, _]) 2 rfl Try.underlying25 rfl (by kernel_rfl) rfl rfl) ?_ | refine wl_gf rfl rfl (f_loadsb (cs := [_, _, _]) 3 rfl Try.underlying25 rfl (by kernel_rfl) rfl rfl) ?_ | refine wl_gf rfl rfl (f_loadsb (cs := [_, _, _]) 4 rfl Try.underlying25 rfl (by kernel_rfl) rfl rfl) ?_ | refine wl_gf rfl rfl (f_loadsb (cs := [_, _, _]) 5 rfl Try.underlying25 rfl (by kernel_rfl) rfl rfl) ?_ | refine wl_gf rfl rfl (f_loadsb (cs := [_, _, _]) 6 rfl Try.underlying25 rfl (by kernel_rfl) rfl rfl) ?_)
            refine wl_ge rfl rfl (e_call0 rfl Try.func26 (by kernel_rfl) (fun w hh => sameEvent_spec _ _ tags' tags' _ _ _ _ w (hrd' w (hh.drop_ (List.sublist_append_right [_, _, _, _, _] _))) (Rd.held0 hh (i := 1) rfl) (by omega) (by omega))) ?_
            rintro _ _ w10 ⟨_, rfl, rfl, rfl⟩
            refine wl_gf rfl rfl (f_not rfl rfl) ?_
            exact wl_pend rfl rfl ⟨rfl, rfl, rfl, rfl, rfl, trivial⟩ (List.Sublist.refl _)
          refine wl_end [(1, _), (2, _), (24, _), (25, _), (26, _), (60, _)] ⟨rfl, rfl, rfl, rfl, rfl, rfl, trivial⟩ ?_
          refine w_ifb rfl (fun h => absurd h (by simp; omega)) (fun _ => ?_)
          refine w_pick [5, 5] rfl ?_
          refine w_sub [(1, _), (2, _), (24, _), (25, _), (26, _)] ⟨rfl, rfl, rfl, rfl, rfl, trivial⟩ (w_skip ?_)
          exact ⟨rfl, rfl⟩
      · rintro _ _ w ⟨rfl, rfl⟩
        refine w_reg ?_
        refine wl_f (f_add rfl rfl (by omega)) ?_
        refine wl_f (f_move rfl) ?_
        refine wl_end [(1, _), (2, _), (24, _), (25, _), (26, _)] ⟨rfl, rfl, rfl, rfl, rfl, trivial⟩ ?_
        exact ⟨z - 1, by omega, i + 1, rfl, rfl, by omega⟩
    · skip
      refine w_drop [] (List.nil_sublist _) ?_
      refine w_exit0 ?_
      refine w_seq ?_
      refine w_reg ?_
      refine wl_f (f_move rfl) ?_
      refine wl_e (e_call0 rfl Try.func17 (by kernel_rfl) (fun w hh => new_spec D _ dc w)) ?_
      rintro _ _ w3 ⟨_, rfl, b4, rfl, rfl⟩
      refine wl_e (e_call1 (deck b4 (.slice D L.length dc) 0) [] rfl Try.func18 (by kernel_rfl) (List.Perm.refl _) (fun w hh hs' => event_spec b4 _ L 0 77 w ⟨hd.old1 hh (Hr := []) (List.Perm.refl _), hL, Nat.zero_le _⟩ hs')) ?_
      rintro _ _ w4 ⟨_, rfl, slz, tz, wz, p2, rfl, htz, hwz, rfl, hp2'⟩
      refine wl_e (e_call0 rfl Try.func19 (by kernel_rfl) (fun w hh => encode_spec _ tz 77 wz w (Rd.held0 hh (i := 0) rfl) (by have := htz.1; omega) (by omega) hwz)) ?_
      rintro _ _ w6 ⟨_, rfl, va, rfl, rfl, _⟩
      rw [encEv_deck htz (by omega)]
      refine wl_f (f_move rfl) ?_
      refine wl_f (f_extract rfl rfl) ?_
      refine wl_f (f_extract rfl rfl) ?_
      refine wl_f (f_assign rfl) ?_
      refine wl_f (f_assign rfl) ?_
      refine wl_end [(15, _)] ⟨rfl, trivial⟩ ?_
      refine w_seq ?_
      refine w_reg ?_
      refine wl_f (f_move rfl) ?_
      refine wl_f (f_eql rfl rfl) ?_
      refine wl_f (f_move rfl) ?_
      refine wl_and (j := 2) (c := true) 1 [] trivial rfl rfl rfl rfl rfl (fun hg13_4 => ?_) (fun w13_4 => ?_)
      · skip
        refine wl_ge rfl rfl (e_call0 rfl Try.func16 (by kernel_rfl) (fun w hh => awake_spec w)) ?_
        rintro _ _ w2 ⟨_, rfl, rfl, rfl⟩
        exact wl_pend rfl rfl trivial (List.Sublist.refl _)
      refine wl_f (f_assign rfl) ?_
      refine wl_end [(6, _)] ⟨rfl, trivial⟩ ?_
      refine w_ret ?_
      refine ⟨_, _, fun a ha hh => results_tmps Try.results6 rfl a ha _, List.Sublist.refl _, ?_⟩
      rfl
end Go.Proofs.Ythomfpfjcniknaa
