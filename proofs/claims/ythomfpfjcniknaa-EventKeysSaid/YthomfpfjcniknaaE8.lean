/- The law EventItem: the call returns true. -/
import Derived.Test.YthomfpfjcniknaaD16
namespace Go.Proofs.Ythomfpfjcniknaa
open Go.RowKit

theorem lit_ev3' (A1 A2 A3 : Option Addr) (l1 l2 l3 c1 c2 c3 : Nat) (t1 t2 t3 u1 u2 u3 : Int) (w : World) :
    (Instr.buildSlice 36 3 [(0, .agg [.slice A1 l1 c1, .int .i64 t1, .int .u64 u1].toArray), (1, .agg [.slice A2 l2 c2, .int .i64 t2, .int .u64 u2].toArray), (2, .agg [.slice A3 l3 c3, .int .i64 t3, .int .u64 u3].toArray)].toArray).run Try.prog w =
      .ok (.slice (some ⟨w.heap.size, 0, .none⟩) 3 3) (w.alloc (.cells [.slice A1 l1 c1, .int .i64 t1, .int .u64 u1, .slice A2 l2 c2, .int .i64 t2, .int .u64 u2, .slice A3 l3 c3, .int .i64 t3, .int .u64 u3].toArray 25)) := by kernel_rfl
theorem eq_item (s : ByteArray) (t u : Int) (w : World) : (Op.equalIn 10000 69 (.agg [.string s, .int .i64 t, .int .u64 u].toArray) (.agg [.string s, .int .i64 t, .int .u64 u].toArray)).run Try.prog w = .ok true w := by
  have ht : Try.prog.underlying 69 = some (.struct (Try.prog.fieldsOf 69)) := by kernel_rfl
  rw [run_equalIn_struct w 9999 69 _ _ ht (by kernel_rfl)]
  simp only [Program.fieldsOf, Try.underlying69]
  have p0 : (part 9 #[.string s, .int .i64 t, .int .u64 u] 0).run Try.prog w = .ok (.string s) w := by kernel_rfl
  have p1 : (part 3 #[.string s, .int .i64 t, .int .u64 u] 1).run Try.prog w = .ok (.int .i64 t) w := by kernel_rfl
  have p2 : (part 23 #[.string s, .int .i64 t, .int .u64 u] 2).run Try.prog w = .ok (.int .u64 u) w := by kernel_rfl
  have q1 : (Op.equalIn 9999 3 (.int .i64 t) (.int .i64 t)).run Try.prog w = .ok (t == t) w := run_equalIn_int w 9998 3 .i64 .i64 t t Try.underlying3
  have q2 : (Op.equalIn 9999 23 (.int .u64 u) (.int .u64 u)).run Try.prog w = .ok (u == u) w := run_equalIn_int w 9998 23 .u64 .u64 u u Try.underlying23
  simp [Op.eqFields, p0, p1, p2, q1, q2, eqf w 9 _ _ Try.underlying9]
theorem neq_item (x : List Nat × Int × Nat) (w : World) : (binOp .neq 69 (itemV x) (itemV x)).run Try.prog w = .ok (.bool false) w := by
  unfold itemV
  rw [run_neq_struct, eq_item]
  rfl
theorem eql_item (x : List Nat × Int × Nat) (w : World) : (binOp .eql 69 (itemV x) (itemV x)).run Try.prog w = .ok (.bool true) w := by
  unfold itemV
  rw [run_eql_struct, eq_item]
  rfl

set_option maxHeartbeats 4000000 in
theorem eventItem_spec (sl : Value) (tags : List Tg) (t : Int) (wt : Nat) (A : Option Addr) (l c : Nat) (L : List Int) (time : Int) (w : World)
    (hx : Rd w Nil 2 sl tags.length (tcells tags)) (hxn : tags.length ≤ 140737488355328)
    (hd : Rd w Nil 1 (.slice A l c) L.length (iv L)) (hL : L.length ≤ 140737488355328) :
    Spec Try.prog 13 [.agg #[sl, .int .i64 t, .int .u64 wt], .slice A l c, .int .i64 time] w Nil fun r _ => r = .bool true := by
  obtain ⟨Ax, cx, rfl, hxl, hxc, hxA⟩ := id hx
  refine enter (n := 57) Try.func13 rfl rfl [(0, _), (1, _), (2, _)] rfl ⟨rfl, rfl, rfl, trivial⟩ (Holds.start _ _) ?_
  refine w_seq ?_
  refine w_reg ?_
  refine wl_e (e_box (cs := [_, _, _]) rfl rfl) ?_
  rintro _ _ w0_0 ⟨b0_0, rfl, rfl⟩
  refine wl_f (f_assign rfl) ?_
  refine wl_end [(1, _), (2, _), (3, _)] ⟨rfl, rfl, rfl, trivial⟩ ?_
  refine w_seq ?_
  refine w_seq ?_
  refine w_reg ?_
  (first | refine wl_f (f_loadsb (cs := [_, _, _]) 0 rfl Try.underlying25 rfl (by kernel_rfl) rfl rfl) ?_ | refine wl_f (f_loadsb (cs := [_, _, _]) 1 rfl Try.underlying25 rfl (by kernel_rfl) rfl rfl) ?_ | refine wl_f (f_loadsb (cs := [_, _, _]) 2 rfl Try.underlying25 rfl (by kernel_rfl) rfl rfl) ?_ | refine wl_f (f_loadsb (cs := [_, _, _]) 3 rfl Try.underlying25 rfl (by kernel_rfl) rfl rfl) ?_ | refine wl_f (f_loadsb (cs := [_, _, _]) 4 rfl Try.underlying25 rfl (by kernel_rfl) rfl rfl) ?_ | refine wl_f (f_loadsb (cs := [_, _, _]) 5 rfl Try.underlying25 rfl (by kernel_rfl) rfl rfl) ?_ | refine wl_f (f_loadsb (cs := [_, _, _]) 6 rfl Try.underlying25 rfl (by kernel_rfl) rfl rfl) ?_)
  refine wl_e (e_call0 rfl Try.func15 (by kernel_rfl) (fun w hh => plain_spec _ tags t wt w (hx.old0 hh) (by omega))) ?_
  rintro _ _ w1 ⟨_, rfl, pb, rfl, hpb, rfl⟩
  refine wl_f (f_not rfl rfl) ?_
  refine wl_end [(1, _), (2, _), (3, _), (17, _)] ⟨rfl, rfl, rfl, rfl, trivial⟩ ?_
  refine w_ifb rfl (fun hc1 => ?_) (fun hc1 => ?_)
  · skip
    refine w_seq ?_
    refine w_reg ?_
    refine wl_e (e_call0 rfl Try.func16 (by kernel_rfl) (fun w hh => awake_spec w)) ?_
    rintro _ _ w2 ⟨_, rfl, rfl, rfl⟩
    refine wl_f (f_assign rfl) ?_
    refine wl_end [(6, _)] ⟨rfl, trivial⟩ ?_
    refine w_ret ?_
    refine ⟨_, _, fun a ha hh => results_tmps Try.results13 rfl a ha _, List.Sublist.refl _, ?_⟩
    rfl
  · skip
    obtain ⟨hp1, hp2⟩ := hpb (by simpa using hc1)
    refine w_skip ?_
    refine w_seq ?_
    refine w_reg ?_
    refine wl_f (f_move rfl) ?_
    refine wl_e (e_call0 rfl Try.func17 (by kernel_rfl) (fun w hh => new_spec A l c w)) ?_
    rintro _ _ w3 ⟨_, rfl, b3, rfl, rfl⟩
    refine wl_f (f_move rfl) ?_
    refine wl_e (e_call1 (deck b3 (.slice A l c) 0) [_] rfl Try.func18 (by kernel_rfl) (List.Perm.refl _) (fun w hh hs' => event_spec b3 _ L 0 time w ⟨hd.old1 hh (Hr := [_]) (List.Perm.refl _), hL, Nat.zero_le _⟩ hs')) ?_
    rintro _ _ w4 ⟨_, rfl, sly, ty, wy, p1, rfl, hty, hwy, rfl, hp1'⟩
    refine wl_with fun hh => ?_
    obtain ⟨Ay, cy, rfl⟩ := row_slice hh (i := 0) rfl
    clear hh
    refine wl_e (e_allocs [.slice .none 0 0, .int .i64 0, .int .u64 0] (by kernel_rfl)) ?_
    rintro _ _ w3_4 ⟨b3_4, rfl, rfl⟩
    (first | refine wl_e0 (e_store0 (us := [_, _, _]) rfl rfl rfl (by kernel_rfl) (by simp [Value.oneCell']) rfl rfl) ?_ | refine wl_e0 (e_store1 (us := [_, _, _]) rfl rfl rfl (by kernel_rfl) (by simp [Value.oneCell']) rfl rfl) ?_ | refine wl_e0 (e_store2 (us := [_, _, _]) rfl rfl rfl (by kernel_rfl) (by simp [Value.oneCell']) rfl rfl) ?_ | refine wl_e0 (e_store3 (us := [_, _, _]) rfl rfl rfl (by kernel_rfl) (by simp [Value.oneCell']) rfl rfl) ?_)
    rintro _ _ w3_5 rfl
    refine wl_pick [0, 0, 1] rfl ?_
    refine wl_end [(1, _), (2, _), (3, _), (7, _)] ⟨rfl, rfl, rfl, rfl, trivial⟩ ?_
    refine w_seq ?_
    refine w_reg ?_
    refine wl_f (f_move rfl) ?_
    refine wl_e (e_call0 rfl Try.func17 (by kernel_rfl) (fun w hh => new_spec A l c w)) ?_
    rintro _ _ w5 ⟨_, rfl, b4, rfl, rfl⟩
    refine wl_f (f_move rfl) ?_
    refine wl_f (f_and rfl rfl rfl) ?_
    refine wl_e (e_call1 (deck b4 (.slice A l c) 0) [_, _, _] rfl Try.func18 (by kernel_rfl) (List.Perm.refl _) (fun w hh hs' => event_spec b4 _ L 0 _ w ⟨hd.old1 hh (Hr := [_, _, _]) (List.Perm.refl _), hL, Nat.zero_le _⟩ hs')) ?_
    rintro _ _ w6 ⟨_, rfl, slz, tz, wz, p2, rfl, htz, hwz, rfl, hp2'⟩
    refine wl_with fun hh => ?_
    obtain ⟨Az, cz, rfl⟩ := row_slice hh (i := 0) rfl
    clear hh
    refine wl_e (e_allocs [.slice .none 0 0, .int .i64 0, .int .u64 0] (by kernel_rfl)) ?_
    rintro _ _ w4_5 ⟨b4_5, rfl, rfl⟩
    (first | refine wl_e0 (e_store0 (us := [_, _, _]) rfl rfl rfl (by kernel_rfl) (by simp [Value.oneCell']) rfl rfl) ?_ | refine wl_e0 (e_store1 (us := [_, _, _]) rfl rfl rfl (by kernel_rfl) (by simp [Value.oneCell']) rfl rfl) ?_ | refine wl_e0 (e_store2 (us := [_, _, _]) rfl rfl rfl (by kernel_rfl) (by simp [Value.oneCell']) rfl rfl) ?_ | refine wl_e0 (e_store3 (us := [_, _, _]) rfl rfl rfl (by kernel_rfl) (by simp [Value.oneCell']) rfl rfl) ?_)
    rintro _ _ w4_6 rfl
    refine wl_pick [0, 0, 1, 1, 1] rfl ?_
    refine wl_end [(3, _), (7, _), (8, _)] ⟨rfl, rfl, rfl, trivial⟩ ?_
    refine w_seq ?_
    refine w_seq ?_
    refine w_reg ?_
    (first | refine wl_f (f_loadsb (cs := [_, _, _]) 0 rfl Try.underlying25 rfl (by kernel_rfl) rfl rfl) ?_ | refine wl_f (f_loadsb (cs := [_, _, _]) 1 rfl Try.underlying25 rfl (by kernel_rfl) rfl rfl) ?_ | refine wl_f (f_loadsb (cs := [_, _, _]) 2 rfl Try.underlying25 rfl (by kernel_rfl) rfl rfl) ?_ | refine wl_f (f_loadsb (cs := [_, _, _]) 3 rfl Try.underlying25 rfl (by kernel_rfl) rfl rfl) ?_ | refine wl_f (f_loadsb (cs := [_, _, _]) 4 rfl Try.underlying25 rfl (by kernel_rfl) rfl rfl) ?_ | refine wl_f (f_loadsb (cs := [_, _, _]) 5 rfl Try.underlying25 rfl (by kernel_rfl) rfl rfl) ?_ | refine wl_f (f_loadsb (cs := [_, _, _]) 6 rfl Try.underlying25 rfl (by kernel_rfl) rfl rfl) ?_)
    (first | refine wl_f (f_loadsb (cs := [_, _, _]) 0 rfl Try.underlying25 rfl (by kernel_rfl) rfl rfl) ?_ | refine wl_f (f_loadsb (cs := [_, _, _]) 1 rfl Try.underlying25 rfl (by kernel_rfl) rfl rfl) ?_ | refine wl_f (f_loadsb (cs := [_, _, _]) 2 rfl Try.underlying25 rfl (by kernel_rfl) rfl rfl) ?_ | refine wl_f (f_loadsb (cs := [_, _, _]) 3 rfl Try.underlying25 rfl (by kernel_rfl) rfl rfl) ?_ | refine wl_f (f_loadsb (cs := [_, _, _]) 4 rfl Try.underlying25 rfl (by kernel_rfl) rfl rfl) ?_ | refine wl_f (f_loadsb (cs := [_, _, _]) 5 rfl Try.underlying25 rfl (by kernel_rfl) rfl rfl) ?_ | refine wl_f (f_loadsb (cs := [_, _, _]) 6 rfl Try.underlying25 rfl (by kernel_rfl) rfl rfl) ?_)
    (first | refine wl_f (f_loadsb (cs := [_, _, _]) 0 rfl Try.underlying25 rfl (by kernel_rfl) rfl rfl) ?_ | refine wl_f (f_loadsb (cs := [_, _, _]) 1 rfl Try.underlying25 rfl (by kernel_rfl) rfl rfl) ?_ | refine wl_f (f_loadsb (cs := [_, _, _]) 2 rfl Try.underlying25 rfl (by kernel_rfl) rfl rfl) ?_ | refine wl_f (f_loadsb (cs := [_, _, _]) 3 rfl Try.underlying25 rfl (by kernel_rfl) rfl rfl) ?_ | refine wl_f (f_loadsb (cs := [_, _, _]) 4 rfl Try.underlying25 rfl (by kernel_rfl) rfl rfl) ?_ | refine wl_f (f_loadsb (cs := [_, _, _]) 5 rfl Try.underlying25 rfl (by kernel_rfl) rfl rfl) ?_ | refine wl_f (f_loadsb (cs := [_, _, _]) 6 rfl Try.underlying25 rfl (by kernel_rfl) rfl rfl) ?_)
    refine wl_e (e_litrow (e := 25) (sz := 3) rfl (fun w => lit_ev3' _ _ _ _ _ _ _ _ _ _ _ _ _ _ _ w) rfl (by decide)) ?_
    rintro _ _ w5_3 ⟨b5_3, rfl, rfl⟩
    refine wl_f (f_len rfl Try.underlying36) ?_
    refine wl_f (f_move rfl) ?_
    refine wl_pick [0, 1, 2] rfl ?_
    refine wl_end [(31, _), (32, _), (33, _)] ⟨rfl, rfl, rfl, trivial⟩ ?_
    refine w_block ?_
    generalize htm : bits .and .i64 time 4095 = tm
    refine w_loop (fun q m H w' => ∃ i : Nat, m = [(31, .slice (some ⟨b5_3, 0, .none⟩) 3 3), (32, .int .i64 3), (33, .int .i64 i)] ∧
      H = [row (.slice (some ⟨b5_3, 0, .none⟩) 3 3) 25 3 3 [.slice Ax tags.length cx, .int .i64 t, .int .u64 wt, .slice Ay ty.length cy, .int .i64 time, .int .u64 wy, .slice Az tz.length cz, .int .i64 tm, .int .u64 wz],
        row (.slice Az tz.length cz) 35 2 tz.length (tcells tz), row (.slice Ay ty.length cy) 35 2 ty.length (tcells ty)] ∧ q + i = 3) 3 ⟨0, rfl, rfl, rfl⟩ ?_
    rintro q _ _ w7 ⟨i, rfl, rfl, hq⟩
    refine w_seq ?_
    refine w_reg ?_
    refine wl_f (f_lss rfl rfl) ?_
    refine wl_end [(31, _), (32, _), (33, _), (34, _)] ⟨rfl, rfl, rfl, rfl, trivial⟩ ?_
    refine w_seq ?_
    refine w_ifd rfl (fun hc2 => ?_) (fun hc2 => ?_)
    · skip
      obtain ⟨A', c', tags', t', wt', hev, hrd', hn', hs'⟩ : ∃ (A' : Option Addr) (c' : Nat) (tags' : List Tg) (t' : Int) (wt' : Nat),
          (([.slice Ax tags.length cx, .int .i64 t, .int .u64 wt, .slice Ay ty.length cy, .int .i64 time, .int .u64 wy, .slice Az tz.length cz, .int .i64 tm, .int .u64 wz] : List Value).drop (0 + i * 3)).take [Value.slice A' tags'.length c', Value.int .i64 t', Value.int .u64 wt'].length = [.slice A' tags'.length c', .int .i64 t', .int .u64 wt'] ∧
          (∀ H0 w', Holds w Nil (H0 ++ [row (.slice Az tz.length cz) 35 2 tz.length (tcells tz), row (.slice Ay ty.length cy) 35 2 ty.length (tcells ty)]) w' → Rd w' Nil 2 (.slice A' tags'.length c') tags'.length (tcells tags')) ∧
          tags'.length ≤ 140737488355328 ∧ ∀ x ∈ tags', x.1.size ≤ 140737488355328 := by
        match i, hc2 with
        | 0, _ => exact ⟨_, _, tags, t, wt, rfl, fun H0 w' hh => hx.old0 hh, by omega, fun x hx => by have := hp2 x hx; omega⟩
        | 1, _ => exact ⟨_, _, ty, time, wy, rfl, fun H0 w' hh => Rd.held0 (e := 35) hh (i := H0.length + 1) (by simp), by have := hty.1; omega, fun x hx => by have := hty.2 x hx; omega⟩
        | 2, _ => exact ⟨_, _, tz, tm, wz, rfl, fun H0 w' hh => Rd.held0 (e := 35) hh (i := H0.length) (by simp), by have := htz.1; omega, fun x hx => by have := htz.2 x hx; omega⟩
        | i + 3, h => omega
      refine w_skip ?_
      refine w_seq ?_
      refine w_block ?_
      refine w_seq ?_
      refine w_reg ?_
      refine wl_f (f_indexAddr 3 rfl rfl Try.underlying36 (by kernel_rfl) rfl (by omega)) ?_
      refine wl_f (f_loadsr (cs := [.slice A' tags'.length c', .int .i64 t', .int .u64 wt']) 0 rfl Try.underlying25 rfl (by kernel_rfl) rfl hev) ?_
      refine wl_e (e_allocs [.slice .none 0 0, .int .i64 0, .int .u64 0] (by kernel_rfl)) ?_
      rintro _ _ w7_2 ⟨b7_2, rfl, rfl⟩
      (first | refine wl_e0 (e_store0 (us := [_, _, _]) rfl rfl rfl (by kernel_rfl) (by simp [Value.oneCell']) rfl rfl) ?_ | refine wl_e0 (e_store1 (us := [_, _, _]) rfl rfl rfl (by kernel_rfl) (by simp [Value.oneCell']) rfl rfl) ?_ | refine wl_e0 (e_store2 (us := [_, _, _]) rfl rfl rfl (by kernel_rfl) (by simp [Value.oneCell']) rfl rfl) ?_ | refine wl_e0 (e_store3 (us := [_, _, _]) rfl rfl rfl (by kernel_rfl) (by simp [Value.oneCell']) rfl rfl) ?_)
      rintro _ _ w7_3 rfl
      refine wl_end [(10, _), (31, _), (32, _), (33, _)] ⟨rfl, rfl, rfl, rfl, trivial⟩ ?_
      refine w_seq ?_
      refine w_reg ?_
      (first | refine wl_f (f_loadsb (cs := [_, _, _]) 0 rfl Try.underlying25 rfl (by kernel_rfl) rfl rfl) ?_ | refine wl_f (f_loadsb (cs := [_, _, _]) 1 rfl Try.underlying25 rfl (by kernel_rfl) rfl rfl) ?_ | refine wl_f (f_loadsb (cs := [_, _, _]) 2 rfl Try.underlying25 rfl (by kernel_rfl) rfl rfl) ?_ | refine wl_f (f_loadsb (cs := [_, _, _]) 3 rfl Try.underlying25 rfl (by kernel_rfl) rfl rfl) ?_ | refine wl_f (f_loadsb (cs := [_, _, _]) 4 rfl Try.underlying25 rfl (by kernel_rfl) rfl rfl) ?_ | refine wl_f (f_loadsb (cs := [_, _, _]) 5 rfl Try.underlying25 rfl (by kernel_rfl) rfl rfl) ?_ | refine wl_f (f_loadsb (cs := [_, _, _]) 6 rfl Try.underlying25 rfl (by kernel_rfl) rfl rfl) ?_)
      refine wl_e (e_call0 rfl Try.func40 (by kernel_rfl) (fun w hh => item_spec _ tags' t' wt' w (hrd' [_, _] w hh) hn' hs')) ?_
      rintro _ _ w8 ⟨_, rfl, rfl, rfl⟩
      refine wl_f (f_move rfl) ?_
      refine wl_f (f_extract rfl rfl) ?_
      refine wl_f (f_extract rfl rfl) ?_
      refine wl_e (e_allocs [.string ByteArray.empty, .int .i64 0, .int .u64 0] (by kernel_rfl)) ?_
      rintro _ _ w8_5 ⟨b8_5, rfl, rfl⟩
      (first | refine wl_e0 (e_store0 (us := [_, _, _]) rfl rfl rfl (by kernel_rfl) (by simp [Value.oneCell']) rfl rfl) ?_ | refine wl_e0 (e_store1 (us := [_, _, _]) rfl rfl rfl (by kernel_rfl) (by simp [Value.oneCell']) rfl rfl) ?_ | refine wl_e0 (e_store2 (us := [_, _, _]) rfl rfl rfl (by kernel_rfl) (by simp [Value.oneCell']) rfl rfl) ?_ | refine wl_e0 (e_store3 (us := [_, _, _]) rfl rfl rfl (by kernel_rfl) (by simp [Value.oneCell']) rfl rfl) ?_)
      rintro _ _ w8_6 rfl
      refine wl_f (f_assign rfl) ?_
      refine wl_end [(10, _), (11, _), (12, _), (31, _), (32, _), (33, _)] ⟨rfl, rfl, rfl, rfl, rfl, rfl, trivial⟩ ?_
      refine w_seq ?_
      refine w_reg ?_
      (first | refine wl_f (f_loadsb (cs := [_, _, _]) 0 rfl Try.underlying25 rfl (by kernel_rfl) rfl rfl) ?_ | refine wl_f (f_loadsb (cs := [_, _, _]) 1 rfl Try.underlying25 rfl (by kernel_rfl) rfl rfl) ?_ | refine wl_f (f_loadsb (cs := [_, _, _]) 2 rfl Try.underlying25 rfl (by kernel_rfl) rfl rfl) ?_ | refine wl_f (f_loadsb (cs := [_, _, _]) 3 rfl Try.underlying25 rfl (by kernel_rfl) rfl rfl) ?_ | refine wl_f (f_loadsb (cs := [_, _, _]) 4 rfl Try.underlying25 rfl (by kernel_rfl) rfl rfl) ?_ | refine wl_f (f_loadsb (cs := [_, _, _]) 5 rfl Try.underlying25 rfl (by kernel_rfl) rfl rfl) ?_ | refine wl_f (f_loadsb (cs := [_, _, _]) 6 rfl Try.underlying25 rfl (by kernel_rfl) rfl rfl) ?_)
      refine wl_e (e_call0 rfl Try.func41 (by kernel_rfl) (fun w hh => ritem_spec _ tags' t' wt' w (hrd' [_, _, _] w hh) hn' hs')) ?_
      rintro _ _ w9 ⟨_, rfl, rfl, rfl⟩
      refine wl_f (f_move rfl) ?_
      refine wl_f (f_extract rfl rfl) ?_
      refine wl_f (f_extract rfl rfl) ?_
      refine wl_e (e_allocs [.string ByteArray.empty, .int .i64 0, .int .u64 0] (by kernel_rfl)) ?_
      rintro _ _ w9_5 ⟨b9_5, rfl, rfl⟩
      (first | refine wl_e0 (e_store0 (us := [_, _, _]) rfl rfl rfl (by kernel_rfl) (by simp [Value.oneCell']) rfl rfl) ?_ | refine wl_e0 (e_store1 (us := [_, _, _]) rfl rfl rfl (by kernel_rfl) (by simp [Value.oneCell']) rfl rfl) ?_ | refine wl_e0 (e_store2 (us := [_, _, _]) rfl rfl rfl (by kernel_rfl) (by simp [Value.oneCell']) rfl rfl) ?_ | refine wl_e0 (e_store3 (us := [_, _, _]) rfl rfl rfl (by kernel_rfl) (by simp [Value.oneCell']) rfl rfl) ?_)
      rintro _ _ w9_6 rfl
      refine wl_f (f_assign rfl) ?_
      refine wl_end [(11, _), (12, _), (13, _), (14, _), (31, _), (32, _), (33, _)] ⟨rfl, rfl, rfl, rfl, rfl, rfl, rfl, trivial⟩ ?_
      refine w_seq ?_
      refine w_reg ?_
      (first | refine wl_f (f_loadsb (cs := [_, _, _]) 0 rfl Try.underlying69 rfl (by kernel_rfl) rfl rfl) ?_ | refine wl_f (f_loadsb (cs := [_, _, _]) 1 rfl Try.underlying69 rfl (by kernel_rfl) rfl rfl) ?_ | refine wl_f (f_loadsb (cs := [_, _, _]) 2 rfl Try.underlying69 rfl (by kernel_rfl) rfl rfl) ?_ | refine wl_f (f_loadsb (cs := [_, _, _]) 3 rfl Try.underlying69 rfl (by kernel_rfl) rfl rfl) ?_ | refine wl_f (f_loadsb (cs := [_, _, _]) 4 rfl Try.underlying69 rfl (by kernel_rfl) rfl rfl) ?_ | refine wl_f (f_loadsb (cs := [_, _, _]) 5 rfl Try.underlying69 rfl (by kernel_rfl) rfl rfl) ?_ | refine wl_f (f_loadsb (cs := [_, _, _]) 6 rfl Try.underlying69 rfl (by kernel_rfl) rfl rfl) ?_)
      (first | refine wl_f (f_loadsb (cs := [_, _, _]) 0 rfl Try.underlying69 rfl (by kernel_rfl) rfl rfl) ?_ | refine wl_f (f_loadsb (cs := [_, _, _]) 1 rfl Try.underlying69 rfl (by kernel_rfl) rfl rfl) ?_ | refine wl_f (f_loadsb (cs := [_, _, _]) 2 rfl Try.underlying69 rfl (by kernel_rfl) rfl rfl) ?_ | refine wl_f (f_loadsb (cs := [_, _, _]) 3 rfl Try.underlying69 rfl (by kernel_rfl) rfl rfl) ?_ | refine wl_f (f_loadsb (cs := [_, _, _]) 4 rfl Try.underlying69 rfl (by kernel_rfl) rfl rfl) ?_ | refine wl_f (f_loadsb (cs := [_, _, _]) 5 rfl Try.underlying69 rfl (by kernel_rfl) rfl rfl) ?_ | refine wl_f (f_loadsb (cs := [_, _, _]) 6 rfl Try.underlying69 rfl (by kernel_rfl) rfl rfl) ?_)
      refine wl_f (f_bin rfl rfl (fun w => run_eqGuard_agg w _ _ _ _ _ _ (by kernel_rfl)) (fun w => neq_item (itemOut tags' t' wt').1 w)) ?_
      refine wl_f (f_move rfl) ?_
      refine wl_or (j := 3) (c := decide ((itemOut tags' t' wt').2 ≠ (itemOut tags' t' wt').2)) 3 [(31, _), (32, _), (33, _)] ⟨rfl, rfl, rfl, trivial⟩ rfl rfl rfl rfl rfl (fun hg10_7 => ?_) (fun w10_7 => ?_)
      · skip
        refine wl_gf rfl rfl (f_move rfl) ?_
        refine wl_gf rfl rfl (f_move rfl) ?_
        refine wl_gf rfl rfl (f_neq rfl rfl) ?_
        exact wl_pend rfl rfl ⟨rfl, rfl, rfl, trivial⟩ (List.Sublist.refl _)
      refine wl_end [(31, _), (32, _), (33, _), (54, _)] ⟨rfl, rfl, rfl, rfl, trivial⟩ ?_
      refine w_ifb rfl (fun h => absurd h (by simp)) (fun _ => w_pick [3, 3, 3] rfl ?_)
      refine w_skip ?_
      refine w_reg ?_
      refine wl_f (f_add rfl rfl (by omega)) ?_
      refine wl_f (f_move rfl) ?_
      refine wl_end [(31, _), (32, _), (33, _)] ⟨rfl, rfl, rfl, trivial⟩ ?_
      exact ⟨q - 1, by omega, i + 1, rfl, rfl, by omega⟩
    · skip
      refine w_exit0 ?_
      refine w_seq ?_
      refine w_reg ?_
      refine wl_e (e_call0 rfl Try.func16 (by kernel_rfl) (fun w hh => awake_spec w)) ?_
      rintro _ _ w10 ⟨_, rfl, rfl, rfl⟩
      refine wl_f (f_assign rfl) ?_
      refine wl_end [(6, _)] ⟨rfl, trivial⟩ ?_
      refine w_ret ?_
      refine ⟨_, _, fun a ha hh => results_tmps Try.results13 rfl a ha _, List.Sublist.refl _, ?_⟩
      rfl
end Go.Proofs.Ythomfpfjcniknaa
