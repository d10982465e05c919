/- The law EventEncode: the call returns true. -/
import Derived.Test.YthomfpfjcniknaaD7
namespace Go.Proofs.Ythomfpfjcniknaa
open Go.RowKit

theorem lit_ev3 (A1 A2 A3 : Option Addr) (l1 l2 l3 c1 c2 c3 : Nat) (t1 t2 t3 u1 u2 u3 : Int) (w : World) :
    (Instr.buildSlice 36 3 [(0, .agg [.slice A1 l1 c1, .int .i64 t1, .int .u64 u1].toArray), (1, .agg [.slice A2 l2 c2, .int .i64 t2, .int .u64 u2].toArray), (2, .agg [.slice A3 l3 c3, .int .i64 t3, .int .u64 u3].toArray)].toArray).run Try.prog w =
      .ok (.slice (some ⟨w.heap.size, 0, .none⟩) 3 3) (w.alloc (.cells [.slice A1 l1 c1, .int .i64 t1, .int .u64 u1, .slice A2 l2 c2, .int .i64 t2, .int .u64 u2, .slice A3 l3 c3, .int .i64 t3, .int .u64 u3].toArray 25)) := by kernel_rfl

set_option maxHeartbeats 1000000 in
theorem eventEncode_spec (sl : Value) (tags : List Tg) (t : Int) (wt : Nat) (A : Option Addr) (l c : Nat) (L : List Int) (time : Int) (k : Nat) (w : World)
    (hx : Rd w Nil 2 sl tags.length (tcells tags)) (hxn : tags.length ≤ 140737488355328) (ht : -9223372036854775808 ≤ t ∧ t ≤ 9223372036854775807) (hwt : wt < 18446744073709551616)
    (hd : Rd w Nil 1 (.slice A l c) L.length (iv L)) (hL : L.length ≤ 140737488355328) (htime : -9223372036854775808 ≤ time ∧ time ≤ 9223372036854775807) (hk : k < 65536) :
    Spec Try.prog 3 [.agg #[sl, .int .i64 t, .int .u64 wt], .slice A l c, .int .i64 time, .int .u16 k] w Nil fun r H => r = .bool true := by
  obtain ⟨Ax, cx, rfl, hxl, hxc, hxA⟩ := id hx
  refine enter (n := 63) Try.func3 rfl rfl [(0, _), (1, _), (2, _), (3, _)] rfl ⟨rfl, rfl, rfl, rfl, trivial⟩ (Holds.start _ _) ?_
  refine w_seq ?_
  refine w_reg ?_
  refine wl_e (e_box (cs := [_, _, _]) rfl rfl) ?_
  rintro _ _ w0_0 ⟨b0_0, rfl, rfl⟩
  refine wl_f (f_assign rfl) ?_
  refine wl_end [(1, _), (2, _), (3, _), (4, _)] ⟨rfl, rfl, rfl, rfl, trivial⟩ ?_
  refine w_seq ?_
  refine w_seq ?_
  refine w_reg ?_
  (first | refine wl_f (f_loadsb (cs := [_, _, _]) 0 rfl Try.underlying25 rfl (by kernel_rfl) rfl rfl) ?_ | refine wl_f (f_loadsb (cs := [_, _, _]) 1 rfl Try.underlying25 rfl (by kernel_rfl) rfl rfl) ?_ | refine wl_f (f_loadsb (cs := [_, _, _]) 2 rfl Try.underlying25 rfl (by kernel_rfl) rfl rfl) ?_ | refine wl_f (f_loadsb (cs := [_, _, _]) 3 rfl Try.underlying25 rfl (by kernel_rfl) rfl rfl) ?_ | refine wl_f (f_loadsb (cs := [_, _, _]) 4 rfl Try.underlying25 rfl (by kernel_rfl) rfl rfl) ?_ | refine wl_f (f_loadsb (cs := [_, _, _]) 5 rfl Try.underlying25 rfl (by kernel_rfl) rfl rfl) ?_ | refine wl_f (f_loadsb (cs := [_, _, _]) 6 rfl Try.underlying25 rfl (by kernel_rfl) rfl rfl) ?_)
  refine wl_e (e_call0 rfl Try.func15 (by kernel_rfl) (fun w hh => plain_spec _ tags t wt w (hx.old0 hh) (by omega))) ?_
  rintro _ _ w1 ⟨_, rfl, pb, rfl, hpb, rfl⟩
  refine wl_f (f_not rfl rfl) ?_
  refine wl_end [(1, _), (2, _), (3, _), (4, _), (19, _)] ⟨rfl, rfl, rfl, rfl, rfl, trivial⟩ ?_
  refine w_ifb rfl (fun hc1 => ?_) (fun hc1 => ?_)
  · skip
    refine w_seq ?_
    refine w_reg ?_
    refine wl_e (e_call0 rfl Try.func16 (by kernel_rfl) (fun w hh => awake_spec w)) ?_
    rintro _ _ w2 ⟨_, rfl, rfl, rfl⟩
    refine wl_f (f_assign rfl) ?_
    refine wl_end [(8, _)] ⟨rfl, trivial⟩ ?_
    refine w_ret ?_
    refine ⟨_, _, fun a ha hh => results_tmps Try.results3 rfl a ha _, List.Sublist.refl _, ?_⟩
    rfl
  · skip
    obtain ⟨hp1, hp2⟩ := hpb (by simpa using hc1)
    refine w_skip ?_
    refine w_seq ?_
    refine w_reg ?_
    refine wl_f (f_move rfl) ?_
    refine wl_e (e_call0 rfl Try.func17 (by kernel_rfl) (fun w hh => new_spec A l c w)) ?_
    rintro _ _ w3 ⟨_, rfl, b3, rfl, rfl⟩
    refine wl_f (f_move rfl) ?_
    refine wl_e (e_call1 (deck b3 (.slice A l c) 0) [_] rfl Try.func18 (by kernel_rfl) (List.Perm.refl _) (fun w hh hs' => event_spec b3 _ L 0 time w ⟨hd.old1 hh (Hr := [_]) (List.Perm.refl _), hL, Nat.zero_le _⟩ hs')) ?_
    rintro _ _ w4 ⟨_, rfl, sly, ty, wy, p1, rfl, hty, hwy, rfl, hp1'⟩
    refine wl_with fun hh => ?_
    obtain ⟨Ay, cy, rfl⟩ := row_slice hh (i := 0) rfl
    clear hh
    refine wl_e (e_allocs [.slice .none 0 0, .int .i64 0, .int .u64 0] (by kernel_rfl)) ?_
    rintro _ _ w3_4 ⟨b3_4, rfl, rfl⟩
    (first | refine wl_e0 (e_store0 (us := [_, _, _]) rfl rfl rfl (by kernel_rfl) (by simp [Value.oneCell']) rfl rfl) ?_ | refine wl_e0 (e_store1 (us := [_, _, _]) rfl rfl rfl (by kernel_rfl) (by simp [Value.oneCell']) rfl rfl) ?_ | refine wl_e0 (e_store2 (us := [_, _, _]) rfl rfl rfl (by kernel_rfl) (by simp [Value.oneCell']) rfl rfl) ?_ | refine wl_e0 (e_store3 (us := [_, _, _]) rfl rfl rfl (by kernel_rfl) (by simp [Value.oneCell']) rfl rfl) ?_)
    rintro _ _ w3_5 rfl
    refine wl_pick [1, 0, 1] rfl ?_
    refine wl_end [(3, _), (4, _), (9, _)] ⟨rfl, rfl, rfl, trivial⟩ ?_
    refine w_seq ?_
    refine w_reg ?_
    refine wl_f (f_move rfl) ?_
    refine wl_f (f_convi rfl Try.underlying27 Try.underlying3 (by omega)) ?_
    refine wl_f (f_remw (r := ((k % 5000 : Nat) : Int)) rfl rfl (by omega) (by rw [Int.tmod_eq_emod_of_nonneg (by omega)]; omega)) ?_
    refine wl_e (e_make (l := k % 5000) (cs := List.replicate (k % 5000) (.int .u8 0)) rfl rfl t33 (by omega) (by omega) (by rw [Nat.mul_one]; exact (toList_madeCells_one _ _).symm)) ?_
    rintro _ _ w4_3 ⟨b4_3, rfl, rfl⟩
    refine wl_f (f_b2s (xs := List.replicate (k % 5000) 0) rfl Try.underlying33 Try.underlying5 Try.underlying9 (fun w hh => by have := Rd.held0 hh (i := 0) rfl; simpa using this)) ?_
    refine wl_f (f_build rfl (fun w => build_tag _ _ w)) ?_
    refine wl_e (e_lit1 (cs := [_, _]) t22 rfl rfl rfl (by omega)) ?_
    rintro _ _ w4_6 ⟨b4_6, rfl, rfl⟩
    refine wl_f (f_build (us := [(0, .slice (some ⟨b4_6, 0, .none⟩) 1 1)]) (v := .agg [.slice (some ⟨b4_6, 0, .none⟩) 1 1, .int .i64 0, .int .u64 0].toArray) rfl (fun w => by kernel_rfl)) ?_
    refine wl_e (e_allocs [.slice .none 0 0, .int .i64 0, .int .u64 0] (by kernel_rfl)) ?_
    rintro _ _ w4_8 ⟨b4_8, rfl, rfl⟩
    (first | refine wl_e0 (e_store0 (us := [_, _, _]) rfl rfl rfl (by kernel_rfl) (by simp [Value.oneCell']) rfl rfl) ?_ | refine wl_e0 (e_store1 (us := [_, _, _]) rfl rfl rfl (by kernel_rfl) (by simp [Value.oneCell']) rfl rfl) ?_ | refine wl_e0 (e_store2 (us := [_, _, _]) rfl rfl rfl (by kernel_rfl) (by simp [Value.oneCell']) rfl rfl) ?_ | refine wl_e0 (e_store3 (us := [_, _, _]) rfl rfl rfl (by kernel_rfl) (by simp [Value.oneCell']) rfl rfl) ?_)
    rintro _ _ w4_9 rfl
    refine wl_pick [1, 0, 1, 1, 1] rfl ?_
    refine wl_end [(4, _), (9, _), (10, _)] ⟨rfl, rfl, rfl, trivial⟩ ?_
    refine w_seq ?_
    refine w_seq ?_
    refine w_reg ?_
    (first | refine wl_f (f_loadsb (cs := [_, _, _]) 0 rfl Try.underlying25 rfl (by kernel_rfl) rfl rfl) ?_ | refine wl_f (f_loadsb (cs := [_, _, _]) 1 rfl Try.underlying25 rfl (by kernel_rfl) rfl rfl) ?_ | refine wl_f (f_loadsb (cs := [_, _, _]) 2 rfl Try.underlying25 rfl (by kernel_rfl) rfl rfl) ?_ | refine wl_f (f_loadsb (cs := [_, _, _]) 3 rfl Try.underlying25 rfl (by kernel_rfl) rfl rfl) ?_ | refine wl_f (f_loadsb (cs := [_, _, _]) 4 rfl Try.underlying25 rfl (by kernel_rfl) rfl rfl) ?_ | refine wl_f (f_loadsb (cs := [_, _, _]) 5 rfl Try.underlying25 rfl (by kernel_rfl) rfl rfl) ?_ | refine wl_f (f_loadsb (cs := [_, _, _]) 6 rfl Try.underlying25 rfl (by kernel_rfl) rfl rfl) ?_)
    (first | refine wl_f (f_loadsb (cs := [_, _, _]) 0 rfl Try.underlying25 rfl (by kernel_rfl) rfl rfl) ?_ | refine wl_f (f_loadsb (cs := [_, _, _]) 1 rfl Try.underlying25 rfl (by kernel_rfl) rfl rfl) ?_ | refine wl_f (f_loadsb (cs := [_, _, _]) 2 rfl Try.underlying25 rfl (by kernel_rfl) rfl rfl) ?_ | refine wl_f (f_loadsb (cs := [_, _, _]) 3 rfl Try.underlying25 rfl (by kernel_rfl) rfl rfl) ?_ | refine wl_f (f_loadsb (cs := [_, _, _]) 4 rfl Try.underlying25 rfl (by kernel_rfl) rfl rfl) ?_ | refine wl_f (f_loadsb (cs := [_, _, _]) 5 rfl Try.underlying25 rfl (by kernel_rfl) rfl rfl) ?_ | refine wl_f (f_loadsb (cs := [_, _, _]) 6 rfl Try.underlying25 rfl (by kernel_rfl) rfl rfl) ?_)
    (first | refine wl_f (f_loadsb (cs := [_, _, _]) 0 rfl Try.underlying25 rfl (by kernel_rfl) rfl rfl) ?_ | refine wl_f (f_loadsb (cs := [_, _, _]) 1 rfl Try.underlying25 rfl (by kernel_rfl) rfl rfl) ?_ | refine wl_f (f_loadsb (cs := [_, _, _]) 2 rfl Try.underlying25 rfl (by kernel_rfl) rfl rfl) ?_ | refine wl_f (f_loadsb (cs := [_, _, _]) 3 rfl Try.underlying25 rfl (by kernel_rfl) rfl rfl) ?_ | refine wl_f (f_loadsb (cs := [_, _, _]) 4 rfl Try.underlying25 rfl (by kernel_rfl) rfl rfl) ?_ | refine wl_f (f_loadsb (cs := [_, _, _]) 5 rfl Try.underlying25 rfl (by kernel_rfl) rfl rfl) ?_ | refine wl_f (f_loadsb (cs := [_, _, _]) 6 rfl Try.underlying25 rfl (by kernel_rfl) rfl rfl) ?_)
    refine wl_e (e_litrow (e := 25) (sz := 3) rfl (fun w => lit_ev3 _ _ _ _ _ _ _ _ _ _ _ _ _ _ _ w) rfl (by decide)) ?_
    rintro _ _ w5_3 ⟨b5_3, rfl, rfl⟩
    refine wl_f (f_len rfl Try.underlying36) ?_
    refine wl_f (f_move rfl) ?_
    refine wl_pick [0, 0, 1] rfl ?_
    refine wl_end [(36, _), (37, _), (38, _)] ⟨rfl, rfl, rfl, trivial⟩ ?_
    refine w_block ?_
    refine w_loop (fun q m H w' => ∃ i : Nat, m = [(36, .slice (some ⟨b5_3, 0, .none⟩) 3 3), (37, .int .i64 3), (38, .int .i64 i)] ∧
      H = [row (.slice (some ⟨b5_3, 0, .none⟩) 3 3) 25 3 3 [.slice Ax tags.length cx, .int .i64 t, .int .u64 wt, .slice Ay ty.length cy, .int .i64 time, .int .u64 wy, .slice (some ⟨b4_6, 0, .none⟩) 1 1, .int .i64 0, .int .u64 0],
        row (.slice (some ⟨b4_6, 0, .none⟩) 1 1) 35 2 1 [.string ⟨#[97]⟩, .string (str (List.replicate (k % 5000) 0))], row (.slice Ay ty.length cy) 35 2 ty.length (tcells ty)] ∧ q + i = 3) 3 ⟨0, rfl, rfl, rfl⟩ ?_
    rintro q _ _ w6 ⟨i, rfl, rfl, hq⟩
    refine w_seq ?_
    refine w_reg ?_
    refine wl_f (f_lss rfl rfl) ?_
    refine wl_end [(36, _), (37, _), (38, _), (39, _)] ⟨rfl, rfl, rfl, rfl, trivial⟩ ?_
    refine w_seq ?_
    refine w_ifd rfl (fun hc2 => ?_) (fun hc2 => ?_)
    · skip
      obtain ⟨sl', tags', t', wt', hev, hrd', hn', ht', hwt'⟩ : ∃ (sl' : Value) (tags' : List Tg) (t' : Int) (wt' : Nat),
          (([.slice Ax tags.length cx, .int .i64 t, .int .u64 wt, .slice Ay ty.length cy, .int .i64 time, .int .u64 wy, .slice (some ⟨b4_6, 0, .none⟩) 1 1, .int .i64 0, .int .u64 0] : List Value).drop (0 + i * 3)).take [sl', Value.int .i64 t', Value.int .u64 wt'].length = [sl', .int .i64 t', .int .u64 wt'] ∧
          (∀ w', Holds w Nil [row (.slice (some ⟨b5_3, 0, .none⟩) 3 3) 25 3 3 [.slice Ax tags.length cx, .int .i64 t, .int .u64 wt, .slice Ay ty.length cy, .int .i64 time, .int .u64 wy, .slice (some ⟨b4_6, 0, .none⟩) 1 1, .int .i64 0, .int .u64 0],
            row (.slice (some ⟨b4_6, 0, .none⟩) 1 1) 35 2 1 [.string ⟨#[97]⟩, .string (str (List.replicate (k % 5000) 0))], row (.slice Ay ty.length cy) 35 2 ty.length (tcells ty)] w' → Rd w' Nil 2 sl' tags'.length (tcells tags')) ∧
          tags'.length ≤ 1000000 ∧ (-9223372036854775808 ≤ t' ∧ t' ≤ 9223372036854775807) ∧ wt' < 18446744073709551616 := by
        match i, hc2 with
        | 0, _ => exact ⟨_, tags, t, wt, rfl, fun w' hh => hx.old0 hh, by omega, ht, hwt⟩
        | 1, _ => exact ⟨_, ty, time, wy, rfl, fun w' hh => Rd.held0 hh (i := 2) rfl, by have := hty.1; omega, htime, hwy⟩
        | 2, _ => exact ⟨_, [(⟨#[97]⟩, str (List.replicate (k % 5000) 0))], 0, 0, rfl, fun w' hh => Rd.held0 hh (i := 1) rfl, by simp, by omega, by omega⟩
        | i + 3, h => omega
      refine w_skip ?_
      refine w_seq ?_
      refine w_block ?_
      refine w_seq ?_
      refine w_reg ?_
      refine wl_f (f_indexAddr 3 rfl rfl Try.underlying36 (by kernel_rfl) rfl (by omega)) ?_
      refine wl_f (f_loadsr (cs := [sl', .int .i64 t', .int .u64 wt']) 0 rfl Try.underlying25 rfl (by kernel_rfl) rfl hev) ?_
      refine wl_e (e_allocs [.slice .none 0 0, .int .i64 0, .int .u64 0] (by kernel_rfl)) ?_
      rintro _ _ w7_2 ⟨b7_2, rfl, rfl⟩
      refine wl_with fun hh => ?_
      obtain ⟨A', c', rfl⟩ : ∃ A' c', sl' = .slice A' tags'.length c' := by
        obtain ⟨A', c', h, _⟩ := hrd' _ (hh.drop_ (List.sublist_cons_self ..))
        exact ⟨A', c', h⟩
      clear hh
      (first | refine wl_e0 (e_store0 (us := [_, _, _]) rfl rfl rfl (by kernel_rfl) (by simp [Value.oneCell']) rfl rfl) ?_ | refine wl_e0 (e_store1 (us := [_, _, _]) rfl rfl rfl (by kernel_rfl) (by simp [Value.oneCell']) rfl rfl) ?_ | refine wl_e0 (e_store2 (us := [_, _, _]) rfl rfl rfl (by kernel_rfl) (by simp [Value.oneCell']) rfl rfl) ?_ | refine wl_e0 (e_store3 (us := [_, _, _]) rfl rfl rfl (by kernel_rfl) (by simp [Value.oneCell']) rfl rfl) ?_)
      rintro _ _ w7_3 rfl
      refine wl_end [(12, _), (36, _), (37, _), (38, _)] ⟨rfl, rfl, rfl, rfl, trivial⟩ ?_
      refine w_seq ?_
      refine w_reg ?_
      (first | refine wl_f (f_loadsb (cs := [_, _, _]) 0 rfl Try.underlying25 rfl (by kernel_rfl) rfl rfl) ?_ | refine wl_f (f_loadsb (cs := [_, _, _]) 1 rfl Try.underlying25 rfl (by kernel_rfl) rfl rfl) ?_ | refine wl_f (f_loadsb (cs := [_, _, _]) 2 rfl Try.underlying25 rfl (by kernel_rfl) rfl rfl) ?_ | refine wl_f (f_loadsb (cs := [_, _, _]) 3 rfl Try.underlying25 rfl (by kernel_rfl) rfl rfl) ?_ | refine wl_f (f_loadsb (cs := [_, _, _]) 4 rfl Try.underlying25 rfl (by kernel_rfl) rfl rfl) ?_ | refine wl_f (f_loadsb (cs := [_, _, _]) 5 rfl Try.underlying25 rfl (by kernel_rfl) rfl rfl) ?_ | refine wl_f (f_loadsb (cs := [_, _, _]) 6 rfl Try.underlying25 rfl (by kernel_rfl) rfl rfl) ?_)
      refine wl_e (e_call0 rfl Try.func19 (by kernel_rfl) (fun w hh => encode_spec _ tags' t' wt' w (hrd' w (hh.drop_ (List.sublist_cons_self ..))) hn' ht' hwt')) ?_
      rintro _ _ w7 ⟨_, rfl, va, rfl, rfl, hla⟩
      refine wl_f (f_move rfl) ?_
      refine wl_f (f_extract rfl rfl) ?_
      refine wl_f (f_extract rfl rfl) ?_
      refine wl_f (f_assign rfl) ?_
      refine wl_f (f_assign rfl) ?_
      refine wl_end [(12, _), (13, _), (14, _), (36, _), (37, _), (38, _)] ⟨rfl, rfl, rfl, rfl, rfl, rfl, trivial⟩ ?_
      refine w_seq ?_
      refine w_reg ?_
      (first | refine wl_f (f_loadsb (cs := [_, _, _]) 0 rfl Try.underlying25 rfl (by kernel_rfl) rfl rfl) ?_ | refine wl_f (f_loadsb (cs := [_, _, _]) 1 rfl Try.underlying25 rfl (by kernel_rfl) rfl rfl) ?_ | refine wl_f (f_loadsb (cs := [_, _, _]) 2 rfl Try.underlying25 rfl (by kernel_rfl) rfl rfl) ?_ | refine wl_f (f_loadsb (cs := [_, _, _]) 3 rfl Try.underlying25 rfl (by kernel_rfl) rfl rfl) ?_ | refine wl_f (f_loadsb (cs := [_, _, _]) 4 rfl Try.underlying25 rfl (by kernel_rfl) rfl rfl) ?_ | refine wl_f (f_loadsb (cs := [_, _, _]) 5 rfl Try.underlying25 rfl (by kernel_rfl) rfl rfl) ?_ | refine wl_f (f_loadsb (cs := [_, _, _]) 6 rfl Try.underlying25 rfl (by kernel_rfl) rfl rfl) ?_)
      refine wl_e (e_call0 rfl Try.func20 (by kernel_rfl) (fun w hh => rencode_spec _ tags' t' wt' w (hrd' w (hh.drop_ (List.Sublist.cons _ (List.sublist_cons_self ..)))) hn' ht' hwt')) ?_
      rintro _ _ w8 ⟨_, rfl, vb, rfl, rfl, hlb⟩
      refine wl_f (f_move rfl) ?_
      refine wl_f (f_extract rfl rfl) ?_
      refine wl_f (f_extract rfl rfl) ?_
      refine wl_f (f_assign rfl) ?_
      refine wl_f (f_assign rfl) ?_
      refine wl_end [(13, _), (14, _), (15, _), (16, _), (36, _), (37, _), (38, _)] ⟨rfl, rfl, rfl, rfl, rfl, rfl, rfl, trivial⟩ ?_
      refine w_seq ?_
      refine w_reg ?_
      refine wl_f (f_move rfl) ?_
      refine wl_f (f_move rfl) ?_
      refine wl_e (e_call0 rfl Try.func21 (by kernel_rfl) (fun w hh => same_spec _ _ _ _ w (Rd.held0 hh (i := 1) rfl) (Rd.held0 hh (i := 0) rfl) (by omega) (by omega))) ?_
      rintro _ _ w9 ⟨_, rfl, rfl, rfl⟩
      refine wl_f (f_not rfl rfl) ?_
      refine wl_f (f_move rfl) ?_
      refine wl_or (j := 4) (c := decide ((encEv tags' t' wt').2 ≠ (encEv tags' t' wt').2)) 3 [(36, _), (37, _), (38, _)] ⟨rfl, rfl, rfl, trivial⟩ rfl rfl rfl rfl rfl (fun hg10_8 => ?_) (fun w10_8 => ?_)
      · skip
        refine wl_gf rfl rfl (f_move rfl) ?_
        refine wl_gf rfl rfl (f_move rfl) ?_
        refine wl_gf rfl rfl (f_neq rfl rfl) ?_
        exact wl_pend rfl rfl ⟨rfl, rfl, rfl, trivial⟩ (List.Sublist.refl _)
      refine wl_pick [3, 3, 3] rfl ?_
      refine wl_end [(36, _), (37, _), (38, _), (60, _)] ⟨rfl, rfl, rfl, rfl, trivial⟩ ?_
      refine w_ifb rfl (fun hc3 => ?_) (fun hc3 => ?_)
      · skip
        exact absurd hc3 (by simp) --stop
      · skip
        refine w_skip ?_
        refine w_reg ?_
        refine wl_f (f_add rfl rfl (by omega)) ?_
        refine wl_f (f_move rfl) ?_
        refine wl_end [(36, _), (37, _), (38, _)] ⟨rfl, rfl, rfl, trivial⟩ ?_
        exact ⟨q - 1, by omega, i + 1, rfl, rfl, by omega⟩
    · skip
      refine w_exit0 ?_
      refine w_seq ?_
      refine w_reg ?_
      refine wl_e (e_call0 rfl Try.func16 (by kernel_rfl) (fun w hh => awake_spec w)) ?_
      rintro _ _ w2 ⟨_, rfl, rfl, rfl⟩
      refine wl_f (f_assign rfl) ?_
      refine wl_end [(8, _)] ⟨rfl, trivial⟩ ?_
      refine w_ret ?_
      refine ⟨_, _, fun a ha hh => results_tmps Try.results3 rfl a ha _, List.Sublist.refl _, ?_⟩
      rfl
end Go.Proofs.Ythomfpfjcniknaa
