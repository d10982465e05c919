/- Texts of this proof, part MB8: what the code does, step by step. They have no conditions. -/
import Derived.Test.YtmagdjlcckgkpaaGreatMB7
import Derived.Test.YtmagdjlcckgkpaaGreatMB1
import Derived.RangeFuncNested
import Derived.OrdersIn
import Derived.TacticsIn
import Derived.Test.YtmagdjlcckgkpaaGreatMB2
import Derived.Sort.LoopGhostIn
import Derived.Test.YtmagdjlcckgkpaaGreatMB4
/- Tables of tracked keys: exchanging entries; the number of keys; the deck's entries. -/
namespace Go.Proofs.YtmagdjlcckgkpaaGreat
open Go.RowKit

theorem satsub_spec (a b : Nat) (w : World) (ha : a < 18446744073709551616) : Spec Tryz.prog 89 [.int .u64 (a : Int), .int .u64 (b : Int)] w Nil fun r H =>
    r = .tuple #[.int .u64 ((a - b : Nat) : Int), .bool (decide (b ≤ a))] ∧ H = [] := by
  refine enter (n := 12) Tryz.func89 rfl rfl [(0, _), (1, _)] rfl ⟨rfl, rfl, trivial⟩ (Holds.start _ _) ?_
  refine w_seq (w_reg (wl_f (f_assign rfl) (wl_f (f_assign rfl) (wl_end [(0, _), (1, _)] ⟨rfl, rfl, trivial⟩ ?_))))
  refine w_seq (w_seq (w_reg (wl_f (f_move rfl) (wl_f (f_move rfl) (wl_f (f_lss rfl rfl) ?_)))))
  refine wl_end [(0, _), (1, _), (8, _)] ⟨rfl, rfl, rfl, trivial⟩ ?_
  refine w_ifd rfl (fun hc1 => ?_) (fun hc1 => ?_)
  · skip
    have hlt : a < b := by
      have : (a : Int) < (b : Int) := hc1
      omega
    refine w_seq (w_reg (wl_f (f_assign rfl) (wl_f (f_assign rfl) (wl_end [(4, _), (5, _)] ⟨rfl, rfl, trivial⟩ ?_))))
    refine w_ret ?_
    refine ⟨_, _, fun a ha hh => results_tmps Tryz.results89 rfl a ha _, List.Sublist.refl _, ?_⟩
    exact ⟨by rw [Nat.sub_eq_zero_of_le (by omega), decide_eq_false (by omega)]; rfl, rfl⟩
  · skip
    have hle : b ≤ a := by
      have : ¬ (a : Int) < (b : Int) := hc1
      omega
    refine w_skip ?_
    refine w_seq (w_reg (wl_f (f_move rfl) (wl_f (f_move rfl) (wl_f (f_eqv (v' := .int .u64 ((a - b : Nat) : Int)) (f_subu rfl rfl (by omega)) (by congr 1; omega)) ?_))))
    refine wl_f (f_assign rfl) (wl_f (f_assign rfl) (wl_end [(4, _), (5, _)] ⟨rfl, rfl, trivial⟩ ?_))
    refine w_ret ?_
    refine ⟨_, _, fun a ha hh => results_tmps Tryz.results89 rfl a ha _, List.Sublist.refl _, ?_⟩
    exact ⟨by rw [decide_eq_true hle]; rfl, rfl⟩

/-- What an exchange returns and leaves. -/
def SwapG (E : List (Option En)) (base : Nat) (k x : ByteArray) (xo xs : Nat) (v : Value) (E' : List (Option En)) : Prop :=
  (∃ e : Int, v = .tuple [enZ, .int .i64 e].toArray ∧ E' = E ∧ (Hasnt E k ∧ e = 8 ∨
    ∃ i o s, Has E k i o s ∧ (x = ByteArray.empty ∧ e = 3 ∨ x ≠ ByteArray.empty ∧ ((∃ i o s, Has E x i o s) ∧ e = 10 ∨ Hasnt E x ∧ o + s < xo + xs ∧ e = 1)))) ∨
  (∃ i o s, Has E k i o s ∧ x ≠ ByteArray.empty ∧ Hasnt E x ∧ xo + xs ≤ o + s ∧ v = .tuple [enV k o s, .int .i64 0].toArray ∧ E' = E.set i (some (x, xo, max xs (base - xo))))

/-- What an exchange does to the order. -/
def SwapL (E : List (Option En)) (l : Ord) (base : Nat) (k : ByteArray) (xo xs : Nat) (v : Value) (l' : Ord) : Prop :=
  (∃ e : Int, v = .tuple [enZ, .int .i64 e].toArray ∧ l' = l) ∨ (∃ i o s, Has E k i o s ∧ v = .tuple [enV k o s, .int .i64 0].toArray ∧ l' = ins (rem l i) i (xo + max xs (base - xo)))
set_option maxHeartbeats 8000000 in
theorem svswap_spec {l : Ord} (t m : Nat) (E : List (Option En)) (base total : Nat) (k x : ByteArray) (xo xs : Nat) (r : Res) (w : World) (hk : small k) (hx : small x) (hxo : xo < 18446744073709551616) (hxs : xs < 18446744073709551616)
    (ht : TOk E base total) (hge : ∀ k i o s, Has E k i o s → base ≤ o + s) (hr : SvR t m E l base total r) (hs : Holds w r.foot [r] w) :
    Spec Tryz.prog 77 [.pointer (some ⟨t, 0, .none⟩), .string k, .agg #[.string x, .int .u64 (xo : Int), .int .u64 (xs : Int)]] w r.foot fun v H => ∃ r' E' l', H = [r'] ∧ SvR t m E' l' base total r' ∧ SwapG E base k x xo xs v E' ∧ SwapL E l base k xo xs v l' := by
  have hr0 := hr
  obtain ⟨L, rfl, hm1, hm2, bR, bX, eV, rR, rX, M, T, rfl, hR, hX, hI⟩ := hr
  have hEl := hI.len
  have hO := hR.inv
  obtain ⟨ht1, ht2, ht3⟩ := id ht
  refine enter (n := 102) Tryz.func77 rfl rfl [(0, _), (1, _), (2, _)] rfl ⟨rfl, rfl, rfl, trivial⟩ hs ?_
  refine w_seq (w_reg (wl_e (e_box (cs := [_, _, _]) rfl rfl) ?_))
  rintro _ _ w0_0 ⟨b0_0, rfl, rfl⟩
  refine wl_e (e_allocs [.string ByteArray.empty, .int .u64 0, .int .u64 0] (by kernel_rfl)) ?_
  rintro _ _ w0_1 ⟨b0_1, rfl, rfl⟩
  refine wl_f (f_assign rfl) (wl_end [(0, _), (1, _), (5, _), (6, _)] ⟨rfl, rfl, rfl, rfl, trivial⟩ ?_)
  refine w_seq (w_seq (w_reg (wl_f (f_move rfl) (wl_f (f_eqlnil rfl rfl Tryz.underlying68) ?_))))
  refine wl_end [(0, _), (1, _), (5, _), (6, _), (20, _)] ⟨rfl, rfl, rfl, rfl, rfl, trivial⟩ ?_
  refine w_iff rfl ?_
  refine w_skip ?_
  refine w_seq (w_pick [2, 0, 0] rfl ?_)
  refine w_unb (svl t m bR bX eV E base total rR rX) ?_
  refine w_pick [4, 4, 0, 0, 0, 0] rfl ?_
  refine w_reg (wl_f (f_move rfl) (wl_f (f_nilCheck rfl) (wl_f (f_fieldAddr 1 rfl Tryz.underlying101 rfl rfl (by kernel_rfl)) ?_)))
  refine wl_f (f_fieldAddr 0 rfl Tryz.underlying99 rfl rfl (by kernel_rfl)) ?_
  refine wl_f (f_loadb 2 rfl Tryz.underlying92 rfl rfl rfl) ?_
  refine wl_f (f_move rfl) (wl_e (e_call1 rX [_, _, _, _, _] rfl Tryz.func82 (by kernel_rfl) (pk1 5 rfl) (fun w hh hs' => ixget_spec bX m T 0 M rX k w hk hX hs')) ?_)
  rintro _ _ w3 ⟨_, rfl, rfl, rfl⟩
  refine wl_pick [1, 1, 1, 1, 1, 0] rfl ?_
  refine wl_f (f_move rfl) (wl_f (f_extract rfl rfl) ?_)
  refine wl_f (f_extract rfl rfl) ?_
  refine wl_f (f_assign rfl) (wl_f (f_assign rfl) (wl_end [(0, _), (5, _), (6, _), (8, _), (9, _)] ⟨rfl, rfl, rfl, rfl, rfl, trivial⟩ ?_))
  refine w_seq (w_seq (w_reg (wl_f (f_move rfl) (wl_f (f_not rfl rfl) ?_))))
  refine wl_end [(0, _), (5, _), (6, _), (8, _), (33, _)] ⟨rfl, rfl, rfl, rfl, rfl, trivial⟩ ?_
  refine w_ifb rfl (fun hc2 => ?_) (fun hc2 => ?_)
  · skip
    have hno : Hasnt E k := by
      rcases hI.get hX.nd k with ⟨_, _, _, _, h⟩ | ⟨h, _⟩
      · rw [h] at hc2; cases hc2
      · exact h
    refine w_seq (w_reg (wl_f (f_build rfl build_entry0) ?_))
    refine wl_e0 (e_store0 (us := [_, _, _]) rfl rfl rfl (by kernel_rfl) (by simp [Value.oneCell']) rfl rfl) ?_
    rintro _ _ w5_1 rfl
    refine wl_f (f_assign rfl) (wl_end [(6, _), (7, _)] ⟨rfl, rfl, trivial⟩ ?_)
    refine w_pick [2, 2, 2, 2, 0, 0] rfl ?_
    refine w_bun (H := [_, _]) [_, _, _, _] ?_
    refine w_pick [1, 1, 0] rfl ?_
    refine w_ret ?_
    refine ⟨_, _, fun a ha hh => results_mix Tryz.results77 (rm_cell (cell_agg 0 rfl Tryz.underlying46 rfl (by kernel_rfl) rfl) (rm_tmp rfl rm_nil)) a ha _ hh, (List.sublist_cons_self ..).trans (List.sublist_cons_self ..), ?_⟩
    exact ⟨_, E, _, rfl, hr0, .inl ⟨8, rfl, rfl, .inl ⟨hno, rfl⟩⟩, .inl ⟨8, rfl, rfl⟩⟩
  · skip
    obtain ⟨i, o, s, hi, hg⟩ : ∃ i o s, Has E k i o s ∧ mget M k = some (i : Int) := by
      rcases hI.get hX.nd k with h | ⟨_, h⟩
      · exact h
      · rw [h] at hc2; exact absurd rfl hc2
    rw [hg]
    have hil : i < E.length := (List.getElem?_eq_some_iff.1 hi).1
    have hos := ht3 i k o s hi
    have hbs := hge k i o s hi
    have hlk := look_of_mem hO.nd ((hI.ord i (o + s)).2 ⟨k, o, s, hi, rfl⟩)
    refine w_skip ?_
    refine w_seq (w_seq (w_reg (wl_f (f_fieldAddr 0 rfl Tryz.underlying46 rfl rfl (by kernel_rfl)) ?_)))
    refine wl_f (f_loadb 1 rfl Tryz.underlying9 rfl rfl rfl) ?_
    refine wl_f (f_eqls rfl rfl) ?_
    refine wl_end [(0, _), (5, _), (6, _), (8, _), (37, _)] ⟨rfl, rfl, rfl, rfl, rfl, trivial⟩ ?_
    refine w_ifd rfl (fun hc3 => ?_) (fun hc3 => ?_)
    · skip
      have hx0 : x = ByteArray.empty := hc3
      refine w_seq (w_reg (wl_f (f_build rfl build_entry0) ?_))
      refine wl_e0 (e_store0 (us := [_, _, _]) rfl rfl rfl (by kernel_rfl) (by simp [Value.oneCell']) rfl rfl) ?_
      rintro _ _ w7_1 rfl
      refine wl_f (f_assign rfl) (wl_end [(6, _), (7, _)] ⟨rfl, rfl, trivial⟩ ?_)
      refine w_pick [2, 2, 2, 2, 0, 0] rfl ?_
      refine w_bun (H := [_, _]) [_, _, _, _] ?_
      refine w_pick [1, 1, 0] rfl ?_
      refine w_ret ?_
      refine ⟨_, _, fun a ha hh => results_mix Tryz.results77 (rm_cell (cell_agg 0 rfl Tryz.underlying46 rfl (by kernel_rfl) rfl) (rm_tmp rfl rm_nil)) a ha _ hh, (List.sublist_cons_self ..).trans (List.sublist_cons_self ..), ?_⟩
      exact ⟨_, E, _, rfl, hr0, .inl ⟨3, rfl, rfl, .inr ⟨i, o, s, hi, .inl ⟨hx0, rfl⟩⟩⟩, .inl ⟨3, rfl, rfl⟩⟩
    · skip
      have hx0 : x ≠ ByteArray.empty := hc3
      refine w_skip ?_
      refine w_seq (w_seq ?_)
      refine w_draw [(0, true), (1, true), (2, true), (3, true), (4, true), (5, true), (6, true), (7, false), (8, true), (9, true), (10, true), (11, true), (12, true)] ([_, _, _, _, _]) ([_]) mixed (by kernel_rfl) (by kernel_rfl) rfl (List.Perm.refl _) (fun w8_ => ?_)
      refine wd_f rfl (f_move rfl) (wd_f rfl (f_nilCheck rfl) (wd_f rfl (f_fieldAddr 1 rfl Tryz.underlying101 rfl rfl (by kernel_rfl)) ?_))
      refine wd_f rfl (f_fieldAddr 0 rfl Tryz.underlying99 rfl rfl (by kernel_rfl)) ?_
      refine wd_f rfl (f_loadb 2 rfl Tryz.underlying92 rfl rfl rfl) ?_
      refine wd_f rfl (f_fieldAddr 0 rfl Tryz.underlying46 rfl rfl (by kernel_rfl)) ?_
      refine wd_f rfl (f_loadb 1 rfl Tryz.underlying9 rfl rfl rfl) ?_
      refine wd_e rfl (e_call1 rX [_, _, _, _, _] rfl Tryz.func82 (by kernel_rfl) (pk1 5 rfl) (fun w hh hs' => ixget_spec bX m T 0 M rX x w hx hX hs')) ?_
      rintro _ _ w8 ⟨_, rfl, rfl, rfl⟩
      refine ⟨_, List.perm_append_comm, ?_⟩
      refine wd_f rfl (f_move rfl) (wd_f rfl (f_extract rfl rfl) ?_)
      refine wd_f rfl (f_extract rfl rfl) ?_
      refine wd_f rfl (f_assign rfl) (wd_f rfl (f_assign rfl) (wd_end [(0, _), (5, _), (6, _), (8, _), (11, _)] ⟨rfl, rfl, rfl, rfl, rfl, trivial⟩ ?_))
      refine w_seq (w_reg (wl_f (f_move rfl) (wl_end [(0, _), (5, _), (6, _), (8, _), (50, _)] ⟨rfl, rfl, rfl, rfl, rfl, trivial⟩ ?_)))
      refine w_ifb rfl (fun hc4 => ?_) (fun hc4 => ?_)
      · skip
        have hyes : ∃ i o s, Has E x i o s := by
          rcases hI.get hX.nd x with ⟨i, o, s, h, _⟩ | ⟨_, h⟩
          · exact ⟨i, o, s, h⟩
          · rw [h] at hc4; cases hc4
        refine w_seq (w_reg (wl_f (f_build rfl build_entry0) ?_))
        refine wl_e0 (e_store0 (us := [_, _, _]) rfl rfl rfl (by kernel_rfl) (by simp [Value.oneCell']) rfl rfl) ?_
        rintro _ _ w10_1 rfl
        refine wl_f (f_assign rfl) (wl_end [(6, _), (7, _)] ⟨rfl, rfl, trivial⟩ ?_)
        refine w_pick [2, 2, 2, 2, 0, 0] rfl ?_
        refine w_bun (H := [_, _]) [_, _, _, _] ?_
        refine w_pick [1, 1, 0] rfl ?_
        refine w_ret ?_
        refine ⟨_, _, fun a ha hh => results_mix Tryz.results77 (rm_cell (cell_agg 0 rfl Tryz.underlying46 rfl (by kernel_rfl) rfl) (rm_tmp rfl rm_nil)) a ha _ hh, (List.sublist_cons_self ..).trans (List.sublist_cons_self ..), ?_⟩
        exact ⟨_, E, _, rfl, hr0, .inl ⟨10, rfl, rfl, .inr ⟨i, o, s, hi, .inr ⟨hx0, .inl ⟨hyes, rfl⟩⟩⟩⟩, .inl ⟨10, rfl, rfl⟩⟩
      · skip
        have hno : Hasnt E x := by
          rcases hI.get hX.nd x with ⟨_, _, _, _, h⟩ | ⟨h, _⟩
          · rw [h] at hc4; exact absurd rfl hc4
          · exact h
        refine w_skip ?_
        refine w_seq (w_reg (wl_f (f_move rfl) (wl_f (f_nilCheck rfl) (wl_f (f_fieldAddr 0 rfl Tryz.underlying101 rfl rfl (by kernel_rfl)) ?_))))
        refine wl_f (f_fieldAddr 0 rfl Tryz.underlying97 rfl rfl (by kernel_rfl)) ?_
        refine wl_f (f_loadb 2 rfl Tryz.underlying89 rfl rfl rfl) ?_
        refine wl_f (f_move rfl) (wl_e (e_call1 rR [_, _, _, _, _] rfl Tryz.func88 (by kernel_rfl) (pk1 4 rfl) (fun w hh hs' => rkcount_spec bR m l rR i w hR hs')) ?_)
        rintro _ _ w11 ⟨_, rfl, rfl, rfl⟩
        rw [hlk]
        refine wl_pick [1, 1, 1, 1, 0, 0] rfl ?_
        refine wl_f (f_move rfl) (wl_f (f_extract rfl rfl) ?_)
        refine wl_f (f_extract rfl rfl) ?_
        refine wl_f (f_assign rfl) (wl_f (f_assign rfl) (wl_end [(0, _), (5, _), (6, _), (8, _), (12, _)] ⟨rfl, rfl, rfl, rfl, rfl, trivial⟩ ?_))
        refine w_seq (w_seq (w_reg (wl_f (f_fieldAddr 1 rfl Tryz.underlying46 rfl rfl (by kernel_rfl)) ?_)))
        refine wl_f (f_loadb 1 rfl Tryz.underlying33 rfl rfl rfl) ?_
        refine wl_f (f_fieldAddr 2 rfl Tryz.underlying46 rfl rfl (by kernel_rfl)) ?_
        refine wl_f (f_loadb 1 rfl Tryz.underlying33 rfl rfl rfl) ?_
        refine wl_e (e_call0 rfl Tryz.func36 (by kernel_rfl) (fun w hh => satadd_spec xo xs w hxo hxs)) ?_
        rintro _ _ w12 ⟨_, rfl, rfl, rfl⟩
        refine wl_f (f_move rfl) (wl_f (f_extract rfl rfl) ?_)
        refine wl_f (f_extract rfl rfl) ?_
        refine wl_f (f_assign rfl) (wl_f (f_assign rfl) (wl_end [(0, _), (5, _), (6, _), (8, _), (12, _), (14, _), (15, _)] ⟨rfl, rfl, rfl, rfl, rfl, rfl, rfl, trivial⟩ ?_))
        refine w_seq (w_reg (wl_f (f_move rfl) (wl_f (f_not rfl rfl) ?_)))
        refine wl_f (f_move rfl) ?_
        refine wl_or (j := 2) (c := decide (((o + s : Nat) : Int) < (if xo + xs < 18446744073709551616 then ((xo + xs : Nat) : Int) else 18446744073709551615))) 3 [(0, _), (5, _), (6, _), (8, _)] ⟨rfl, rfl, rfl, rfl, trivial⟩ rfl rfl rfl rfl rfl (fun hg13_6 => ?_) (fun w13_6 => ?_)
        · skip
          refine wl_gf rfl rfl (f_move rfl) ?_
          refine wl_gf rfl rfl (f_move rfl) ?_
          refine wl_gf rfl rfl (f_gtr rfl rfl) ?_
          exact wl_pend rfl rfl ⟨rfl, rfl, rfl, rfl, trivial⟩ (List.Sublist.refl _)
        refine wl_end [(0, _), (5, _), (6, _), (8, _), (76, _)] ⟨rfl, rfl, rfl, rfl, rfl, trivial⟩ ?_
        refine w_ifb rfl (fun hc5 => ?_) (fun hc5 => ?_)
        · skip
          have hgt : o + s < xo + xs := by
            by_cases h : xo + xs < 18446744073709551616
            · rw [if_pos h, decide_eq_true h] at hc5
              have : ((o + s : Nat) : Int) < ((xo + xs : Nat) : Int) := by simpa using hc5
              omega
            · omega
          refine w_seq (w_reg (wl_f (f_build rfl build_entry0) ?_))
          refine wl_e0 (e_store0 (us := [_, _, _]) rfl rfl rfl (by kernel_rfl) (by simp [Value.oneCell']) rfl rfl) ?_
          rintro _ _ w14_1 rfl
          refine wl_f (f_assign rfl) (wl_end [(6, _), (7, _)] ⟨rfl, rfl, trivial⟩ ?_)
          refine w_pick [2, 2, 2, 2, 0, 0] rfl ?_
          refine w_bun (H := [_, _]) [_, _, _, _] ?_
          refine w_pick [1, 1, 0] rfl ?_
          refine w_ret ?_
          refine ⟨_, _, fun a ha hh => results_mix Tryz.results77 (rm_cell (cell_agg 0 rfl Tryz.underlying46 rfl (by kernel_rfl) rfl) (rm_tmp rfl rm_nil)) a ha _ hh, (List.sublist_cons_self ..).trans (List.sublist_cons_self ..), ?_⟩
          exact ⟨_, E, _, rfl, hr0, .inl ⟨1, rfl, rfl, .inr ⟨i, o, s, hi, .inr ⟨hx0, .inr ⟨hno, hgt, rfl⟩⟩⟩⟩, .inl ⟨1, rfl, rfl⟩⟩
        · skip
          have hle : xo + xs ≤ o + s := by
            by_cases h : xo + xs < 18446744073709551616
            · rw [if_pos h, decide_eq_true h] at hc5
              have : ¬ ((o + s : Nat) : Int) < ((xo + xs : Nat) : Int) := by simpa using hc5
              omega
            · rw [decide_eq_false h] at hc5; exact absurd rfl hc5
          refine w_skip ?_
          refine w_seq (w_seq ?_)
          refine w_draw [(0, true), (1, true), (2, true), (3, true), (4, true), (5, true), (6, false), (7, true), (8, true), (9, true), (10, true), (11, true)] (_) ([]) mixed (by kernel_rfl) (by kernel_rfl) rfl (perm_all _) (fun w15_ => ?_)
          refine wd_f rfl (f_move rfl) (wd_f rfl (f_nilCheck rfl) (wd_f rfl (f_fieldAddr 4 rfl Tryz.underlying101 rfl rfl (by kernel_rfl)) ?_))
          refine wd_f rfl (f_loadb 2 rfl Tryz.underlying33 rfl rfl rfl) ?_
          refine wd_f rfl (f_fieldAddr 1 rfl Tryz.underlying46 rfl rfl (by kernel_rfl)) ?_
          refine wd_f rfl (f_loadb 1 rfl Tryz.underlying33 rfl rfl rfl) ?_
          refine wd_e rfl (e_call0 rfl Tryz.func89 (by kernel_rfl) (fun w hh => satsub_spec base xo w (by omega))) ?_
          rintro _ _ w15 ⟨_, rfl, rfl, rfl⟩
          refine ⟨_, List.perm_append_comm_assoc _ _ _, ?_⟩
          refine wd_f rfl (f_move rfl) (wd_f rfl (f_extract rfl rfl) ?_)
          refine wd_f rfl (f_extract rfl rfl) ?_
          refine wd_f rfl (f_assign rfl) (wd_f rfl (f_assign rfl) (wd_end [(0, _), (5, _), (6, _), (8, _), (16, _), (17, _)] ⟨rfl, rfl, rfl, rfl, rfl, rfl, trivial⟩ ?_))
          refine w_seq (w_reg (wl_f (f_move rfl) (wl_end [(0, _), (5, _), (6, _), (8, _), (16, _), (88, _)] ⟨rfl, rfl, rfl, rfl, rfl, rfl, trivial⟩ ?_)))
          refine w_post (fun m' H w' => m' = [(0, .pointer (some ⟨t, 0, .none⟩)), (5, .pointer (some ⟨b0_0, 0, .none⟩)), (6, .pointer (some ⟨b0_1, 0, .none⟩)), (8, .int .i64 (i : Int))] ∧
            H = [blk b0_1 [.string ByteArray.empty, .int .u64 0, .int .u64 0] 46, blk b0_0 [.string x, .int .u64 (xo : Int), .int .u64 ((max xs (base - xo) : Nat) : Int)] 46, blk t [.pointer (some ⟨bR, 0, .none⟩), .pointer (some ⟨bX, 0, .none⟩), .int .i64 (m : Int), eV, .int .u64 (base : Int), .int .u64 (total : Int)] 101, row eV 46 3 m (ecells E), rR, rX]) ?_ ?_
          · skip
            refine w_ifd rfl (fun hc6 => ?_) (fun hc6 => ?_)
            · skip
              refine w_reg (wl_f (f_fieldAddr 2 rfl Tryz.underlying46 rfl rfl (by kernel_rfl)) ?_)
              refine wl_f (f_loadb 1 rfl Tryz.underlying33 rfl rfl rfl) ?_
              refine wl_f (f_move rfl) (wl_f (f_max (r := ((max xs (base - xo) : Nat) : Int)) rfl rfl (by split <;> omega)) ?_)
              refine wl_f (f_fieldAddr 2 rfl Tryz.underlying46 rfl rfl (by kernel_rfl)) ?_
              refine wl_e0 (e_store1 (us := [_]) rfl rfl rfl (by kernel_rfl) (by simp [Value.oneCell']) rfl rfl) ?_
              rintro _ _ w17_5 rfl
              refine wl_end [(0, _), (5, _), (6, _), (8, _)] ⟨rfl, rfl, rfl, rfl, trivial⟩ ?_
              exact ⟨rfl, rfl⟩
            · skip
              refine w_sub [(0, _), (5, _), (6, _), (8, _)] ⟨rfl, rfl, rfl, rfl, trivial⟩ (w_skip ?_)
              have hlt : ¬ xo ≤ base := hc6
              exact ⟨rfl, by rw [Nat.max_eq_left (by omega)]; rfl⟩
          · rintro _ _ w16 ⟨rfl, rfl⟩
            refine w_seq (w_pick [2, 2, 2, 2, 0, 0] rfl ?_)
            refine w_bun (H := [_, _]) [_, _, _, _] ?_
            refine w_reg (wl_f (f_move rfl) (wl_f (f_move rfl) (wl_e (e_call1 (bun (svl t m bR bX eV E base total rR rX)) [_, _] rfl Tryz.func90 (by kernel_rfl) (List.Perm.refl _) (fun w hh hs' => svdrop_spec t m i E base total k o s _ w hi hr0 hs')) ?_)))
            rintro _ _ w18 ⟨_, rfl, rfl, r2, rfl, hr2⟩
            refine wl_e (e_allocs [.string ByteArray.empty, .int .u64 0, .int .u64 0] (by kernel_rfl)) ?_
            rintro _ _ w18_3 ⟨b18_3, rfl, rfl⟩
            refine wl_e0 (e_store0 (us := [_, _, _]) rfl rfl rfl (by kernel_rfl) (by simp [Value.oneCell']) rfl rfl) ?_
            rintro _ _ w18_4 rfl
            refine wl_end [(0, _), (5, _), (6, _), (8, _), (18, _)] ⟨rfl, rfl, rfl, rfl, rfl, trivial⟩ ?_
            refine w_seq (w_reg (wl_f (f_move rfl) (wl_f (f_move rfl) (wl_f (f_loadsb (cs := [_, _, _]) 3 rfl Tryz.underlying46 rfl (by kernel_rfl) rfl rfl) ?_))))
            refine wl_e (e_call1 r2 [_, _, _] rfl Tryz.func85 (by kernel_rfl) (pk1 1 rfl) (fun w hh hs' => svset_spec t m i (E.set i none) base total x xo (max xs (base - xo)) r2 w (List.getElem?_set_self hil) hx hx0 (fun j o' s' hj => by
              by_cases e : i = j
              · subst e; rw [List.getElem?_set_self hil] at hj; cases hj
              · rw [List.getElem?_set_ne e] at hj; exact hno j o' s' hj) (by omega) hr2 hs')) ?_
            rintro _ _ w19 ⟨_, rfl, hL⟩
            have hL' := hL
            obtain ⟨_, _, bR2, bX2, eV2, rR2, rX2, M2, T2, rfl, _⟩ := hL
            refine wl_bun (H := [_, _, _]) [_, _, _, _] ?_
            refine wl_end [(6, _), (18, _)] ⟨rfl, rfl, trivial⟩ ?_
            refine w_seq (w_reg (wl_f (f_loadsb (cs := [_, _, _]) 1 rfl Tryz.underlying46 rfl (by kernel_rfl) rfl rfl) ?_))
            refine wl_e0 (e_store2 (us := [_, _, _]) rfl rfl rfl (by kernel_rfl) (by simp [Value.oneCell']) rfl rfl) ?_
            rintro _ _ w20_1 rfl
            refine wl_f (f_assign rfl) (wl_end [(6, _), (7, _)] ⟨rfl, rfl, trivial⟩ ?_)
            refine w_pick [2, 1, 1, 0] rfl ?_
            refine w_ret ?_
            refine ⟨_, _, fun a ha hh => results_mix Tryz.results77 (rm_cell (cell_agg 0 rfl Tryz.underlying46 rfl (by kernel_rfl) rfl) (rm_tmp rfl rm_nil)) a ha _ hh, ((List.sublist_cons_self ..).trans (List.sublist_cons_self ..)).trans (List.sublist_cons_self ..), ?_⟩
            exact ⟨_, (E.set i none).set i (some (x, xo, max xs (base - xo))), _, rfl, ⟨_, rfl, hL'⟩, .inr ⟨i, o, s, hi, hx0, hno, hle, rfl, by rw [List.set_set]⟩, .inr ⟨i, o, s, hi, rfl, rfl⟩⟩

theorem SInv.cnt {m : Nat} {E : List (Option En)} {l : Ord} {M : List (ByteArray × Int)} (h : SInv m E l M) (hl : OInv m l) (hM : (keys M).Nodup) : l.length = (E.filterMap id).length := by
  have hMn : M.Nodup := (List.pairwise_map.1 hM).imp fun h e => h (by rw [e])
  have h1 : (M.map Prod.snd).Nodup := by
    refine (List.pairwise_map.2 ?_)
    refine hMn.imp_of_mem fun {a b} ha hb hab e => hab ?_
    obtain ⟨k1, z1⟩ := a
    obtain ⟨k2, z2⟩ := b
    obtain ⟨i, o, s, rfl, h1⟩ := (h.idx k1 z1).1 ha
    obtain ⟨j, o', s', rfl, h2⟩ := (h.idx k2 z2).1 hb
    have e : (i : Int) = j := e
    obtain rfl : i = j := by omega
    rw [h1] at h2
    injection h2 with h2; injection h2 with h2; injection h2 with h2 _
    rw [h2]
  have h2 : (ids l).Perm (M.map Prod.snd) := by
    rw [List.perm_ext_iff_of_nodup hl.nd h1]
    intro z
    constructor
    · intro hz
      obtain ⟨⟨z', c⟩, hx, e⟩ := List.mem_map.1 hz
      have e : z' = z := e
      subst e
      have hz0 := hl.rng z' hz
      obtain ⟨i, rfl⟩ : ∃ i : Nat, z' = i := ⟨z'.toNat, by omega⟩
      obtain ⟨k, o, s, hi, _⟩ := (h.ord i c).1 hx
      exact List.mem_map.2 ⟨(k, (i : Int)), (h.idx k i).2 ⟨i, o, s, rfl, hi⟩, rfl⟩
    · intro hz
      obtain ⟨⟨k, z'⟩, hx, e⟩ := List.mem_map.1 hz
      have e : z' = z := e
      subst e
      obtain ⟨i, o, s, rfl, hi⟩ := (h.idx k z').1 hx
      exact List.mem_map.2 ⟨((i : Int), o + s), (h.ord i (o + s)).2 ⟨k, o, s, hi, rfl⟩, rfl⟩
  have h3 : ((E.filterMap id).map Prod.fst).Nodup := by
    rw [List.Nodup, List.pairwise_map, List.pairwise_filterMap, List.pairwise_iff_getElem]
    intro i j hi hj hij b hb c hc e
    have e1 : E[i]? = some (some (b.1, b.2.1, b.2.2)) := by rw [List.getElem?_eq_getElem hi]; exact congrArg some hb
    have e2 : E[j]? = some (some (b.1, c.2.1, c.2.2)) := by rw [List.getElem?_eq_getElem hj, e]; exact congrArg some hc
    have := h.uniq hM e1 e2
    omega
  have h4 : ((E.filterMap id).map Prod.fst).Perm (keys M) := by
    rw [List.perm_ext_iff_of_nodup h3 hM]
    intro k
    rw [keys_free h]
    constructor
    · intro hk
      obtain ⟨y, hy, rfl⟩ := List.mem_map.1 hk
      obtain ⟨i, hi⟩ := mem_fm.1 hy
      exact ⟨i, y.2.1, y.2.2, hi⟩
    · rintro ⟨i, o, s, hi⟩
      exact List.mem_map.2 ⟨(k, o, s), mem_fm.2 ⟨i, hi⟩, rfl⟩
  have e1 := h2.length_eq
  have e2 := h4.length_eq
  simp only [ids, keys, List.length_map] at e1 e2
  omega

theorem svlen_spec {l : Ord} (t m : Nat) (E : List (Option En)) (base total : Nat) (r : Res) (w : World) (hr : SvR t m E l base total r) (hs : Holds w r.foot [r] w) :
    Spec Tryz.prog 76 [.pointer (some ⟨t, 0, .none⟩)] w r.foot fun v H => v = .int .i64 ((E.filterMap id).length : Int) ∧ H = [r] := by
  obtain ⟨L, rfl, hm1, hm2, bR, bX, eV, rR, rX, M, T, rfl, hR, hX, hI⟩ := hr
  have hcnt := hI.cnt hR.inv hX.nd
  refine enter (n := 11) Tryz.func76 rfl rfl [(0, _)] rfl ⟨rfl, trivial⟩ hs ?_
  refine w_seq (w_reg (wl_f (f_assign rfl) (wl_end [(0, _)] ⟨rfl, trivial⟩ ?_)))
  refine w_seq (w_seq (w_reg (wl_f (f_move rfl) (wl_f (f_eqlnil rfl rfl Tryz.underlying68) ?_))))
  refine wl_end [(0, _), (4, _)] ⟨rfl, rfl, trivial⟩ ?_
  refine w_iff rfl ?_
  refine w_skip ?_
  refine w_seq (w_unb (H := []) (svl t m bR bX eV E base total rR rX) ?_)
  refine w_reg (wl_f (f_move rfl) (wl_f (f_nilCheck rfl) (wl_f (f_fieldAddr 0 rfl Tryz.underlying101 rfl rfl (by kernel_rfl)) ?_)))
  refine wl_f (f_fieldAddr 0 rfl Tryz.underlying97 rfl rfl (by kernel_rfl)) ?_
  refine wl_f (f_loadb 0 rfl Tryz.underlying89 rfl rfl rfl) ?_
  refine wl_e (e_call1 rR [_, _, _] rfl Tryz.func87 (by kernel_rfl) (pk1 2 rfl) (fun w hh hs' => rklen_spec bR m l rR w hR hs')) ?_
  rintro _ _ w3 ⟨_, rfl, rfl, rfl⟩
  rw [hcnt]
  refine wl_f (f_assign rfl) (wl_end [(2, _)] ⟨rfl, trivial⟩ ?_)
  refine w_pick [1, 1, 0, 0] rfl ?_
  refine w_bun (H := []) [_, _, _, _] ?_
  refine w_ret ?_
  refine ⟨_, _, fun a ha hh => results_tmps Tryz.results76 rfl a ha _, List.Sublist.refl _, ?_⟩
  exact ⟨rfl, rfl⟩

end Go.Proofs.YtmagdjlcckgkpaaGreat

/- The proof kit, thirteenth part: code in a round of a range over a function, and behind such a range. -/
namespace Go.Proofs.YtmagdjlcckgkpaaGreat
open Go.RowKit

/-- Any function, any depth; in the round r. -/
def fen (r : Option Nat) : Fence := { Fence.wide with round := r }
theorem callsIn_fen {r : Option Nat} {k : Nat} {P : Program} {f : FuncId} {args : Array Value} {w : World} {R : Ending → World → Prop} (h : Calls P f args w R) : CallsIn (fen r) k P f args w R :=
  (callsIn_wide (n := k)).2 h
theorem rowsIn_fen {r : Option Nat} {k : Nat} {P : Program} {row : String} {args : Array Value} {w : World} {R : Value → World → Prop} (h : Rows P row args w R) : RowsIn (fen r) k P row args w R :=
  fun c cs _ => let ⟨v, w', hr, s⟩ := h c cs; ⟨v, w', hr, stepsIn_wide.2 s⟩

def bk (a : Act) (ds : List Deferred) : Act := { a with defers := a.defers ++ ds }
theorem bk_put (a : Act) (ds : List Deferred) (d : Option Tmp) (v : Value) : (bk a ds).put d v = bk (a.put d v) ds := by cases d <;> rfl
theorem bk_defer (a : Act) (ds : List Deferred) (x : Deferred) : ({ bk a ds with defers := x :: (bk a ds).defers } : Act) = bk { a with defers := x :: a.defers } ds := rfl
theorem bk_eval (a : Act) (ds : List Deferred) : (bk a ds).eval = a.eval := rfl
theorem bk_nil (a : Act) : bk a [] = a := by cases a; simp [bk]

section
variable {P : Program} {r : Option Nat} {k : Nat} {Q Q' : Exit → Act → World → Prop} {ops : Array Oper} (ds : List Deferred)

theorem oper_bk {o : Oper} {a : Act} {w : World} {K K' : Act → World → Prop} (hop : ∀ c, o.op ≠ .defer c) (hQ : ∀ a w, ¬ Q .outgrown a w) (hQp : ∀ c a w, ¬ Q (.panic c) a w)
    (hK : ∀ a' w', K a' w' → K' (bk a' ds) w') (h : o.wp P a w K Q) : o.wpIn (fen r) k P (bk a ds) w K' Q' := by
  refine ⟨fun _ _ => trivial, ?_⟩
  rw [Oper.semAt_eq _ _ _ hop, bk_eval]
  unfold Oper.wp at h
  generalize (execOp a.eval o).run P w = x at h
  cases x with
  | ok nx w' =>
    cases nx with
    | value v => simp only [Oper.uponIn]; rw [bk_put]; exact hK _ _ h
    | skip => simp only [Oper.uponIn]; rw [bk_put]; exact hK _ _ h
    | defer d => simp only [Oper.uponIn]; rw [bk_defer, bk_put]; exact hK _ _ h
    | enter f args =>
      refine ⟨fun h => (by cases h), callsIn_fen (Calls.mono h fun e w'' he => ?_)⟩
      cases e with
      | returned v => dsimp only; rw [bk_put]; exact hK _ _ he
      | panicked c => exact absurd he (hQp _ _ _)
      | outgrown => obtain ⟨_, _, he⟩ := he; exact absurd he (hQ _ _)
    | row x args =>
      refine ⟨fun h => (by cases h), rowsIn_fen (Rows.mono h fun v w'' he => ?_)⟩
      rw [bk_put]; exact hK _ _ he
    | _ => exact h.elim
  | halt y w' =>
    cases y with
    | panic v => exact absurd h (hQp _ _ _)
    | _ => exact h.elim

def noDefer (l : List Oper) : Prop := ∀ o ∈ l, ∀ c, o.op ≠ .defer c
theorem list_bk (hQ : ∀ a w, ¬ Q .outgrown a w) (hQp : ∀ c a w, ¬ Q (.panic c) a w) (hN : ∀ a w, Q .normal a w → Q' .normal (bk a ds) w) :
    ∀ (l : List Oper) (a : Act) (w : World), noDefer l → wpList P ops Q l a w → wpListIn (fen r) k P ops Q' l (bk a ds) w
  | [], a, w, _, h => hN a w h
  | o :: l, a, w, hd, h => by
    have ih := list_bk hQ hQp hN l
    have hd' : noDefer l := fun o ho => hd o (List.mem_cons_of_mem _ ho)
    unfold wpList at h
    unfold wpListIn
    have hy : yielded ops (bk a ds).tmps = yielded ops a.tmps := rfl
    rw [hy]
    split at h
    · rename_i hw
      rw [if_pos hw]
      rcases h with h | ⟨_, _, _, h⟩
      · exact oper_bk ds (hd o (List.mem_cons_self ..)) hQ hQp (fun a' w' hk => ih a' w' hd' hk) h
      · exact absurd h (hQ _ _)
    · rename_i hw
      rw [if_neg hw]
      refine ⟨fun _ _ => trivial, ?_⟩
      rw [bk_put]; exact ih _ _ hd' h
theorem any_bk {md : Region.Mode} (hd : noDefer ops.toList) (hQ : ∀ a w, ¬ Q .outgrown a w) (hQp : ∀ c a w, ¬ Q (.panic c) a w) (hN : ∀ a w, Q .normal a w → Q' .normal (bk a ds) w) :
    ∀ (fuel : Nat) (listed : Array Bool) (a : Act) (w : World), wpAny P md ops Q fuel listed a w → wpAnyIn (fen r) k P md ops Q' fuel listed (bk a ds) w
  | 0, listed, a, w, h => ⟨h.1, hN a w h.2⟩
  | fuel + 1, listed, a, w, h => by
    have ih := any_bk (md := md) hd hQ hQp hN fuel
    refine ⟨fun he => hN a w (h.1 he), fun i hi => ?_⟩
    have h2 := h.2 i hi
    unfold wpOp at h2
    unfold wpOpIn
    have hy : yielded ops (bk a ds).tmps = yielded ops a.tmps := rfl
    rw [hy]
    cases ho : ops[i]? with
    | none => rw [ho] at h2; exact ih _ _ _ h2
    | some o =>
      rw [ho] at h2
      dsimp only at h2 ⊢
      have hmem : o ∈ ops.toList := by
        obtain ⟨hlt, rfl⟩ := Array.getElem?_eq_some_iff.1 ho
        exact Array.mem_toList_iff.2 (Array.getElem_mem hlt)
      split at h2
      · rename_i hw
        rw [if_pos hw]
        rcases h2 with h2 | ⟨_, _, _, h2⟩
        · exact oper_bk ds (hd o hmem) hQ hQp (fun a' w' hk => ih _ a' w' hk) h2
        · exact absurd h2 (hQ _ _)
      · rename_i hw
        rw [if_neg hw]
        refine ⟨fun _ _ => trivial, ?_⟩
        rw [bk_put]; exact ih _ _ _ h2
end

section
variable (P : Program) (n : Nat) (w0 : World) (F0 : Nat → Prop)
abbrev CondG := List Deferred → Cond
def at_ (N : CondG) (a : Act) (w : World) : Prop := ∃ ds a0 m H, a = bk a0 ds ∧ Fr n m a0 ∧ Holds w0 F0 H w ∧ N ds m H w
def PostG (N R : CondG) (X : Nat → CondG) : Exit → Act → World → Prop
  | .normal, a, w => at_ n w0 F0 N a w
  | .ret, a, w => at_ n w0 F0 R a w
  | .exit id, a, w => at_ n w0 F0 (X id) a w
  | _, _, _ => False
/-- Code in the round r (or in none), ds being what is to be done at the end besides what the frame tells. -/
def G (r : Option Nat) (c : Code) (N R : CondG) (X : Nat → CondG) (ds : List Deferred) (m : Env) (H : List Res) (w : World) : Prop :=
  ∀ a, Fr n m a → Holds w0 F0 H w → c.wpIn (fen r) 0 P (PostG n w0 F0 N R X) (bk a ds) w
end
section
variable {P : Program} {n : Nat} {w0 : World} {F0 : Nat → Prop} {r : Option Nat} {N R : CondG} {X : Nat → CondG} {ds : List Deferred} {m : Env} {H : List Res} {w : World}

theorem G.mono {N' R' : CondG} {X' : Nat → CondG} {c : Code} (h : G P n w0 F0 r c N R X ds m H w) (hN : ∀ ds m H w, N ds m H w → N' ds m H w)
    (hR : ∀ ds m H w, R ds m H w → R' ds m H w) (hX : ∀ i ds m H w, X i ds m H w → X' i ds m H w) : G P n w0 F0 r c N' R' X' ds m H w :=
  fun a ha hh => wpIn_mono (h a ha hh) fun e a' w' hq => by
    cases e with
    | normal => obtain ⟨ds, a0, m, H, h0, h1, h2, h3⟩ := hq; exact ⟨ds, a0, m, H, h0, h1, h2, hN _ _ _ _ h3⟩
    | ret => obtain ⟨ds, a0, m, H, h0, h1, h2, h3⟩ := hq; exact ⟨ds, a0, m, H, h0, h1, h2, hR _ _ _ _ h3⟩
    | exit id => obtain ⟨ds, a0, m, H, h0, h1, h2, h3⟩ := hq; exact ⟨ds, a0, m, H, h0, h1, h2, hX _ _ _ _ _ h3⟩
    | goto l => exact hq
    | panic c => exact hq
    | outgrown => exact hq
theorem g_seq {x y : Code} (h : G P n w0 F0 r x (fun ds m H w => G P n w0 F0 r y N R X ds m H w) R X ds m H w) : G P n w0 F0 r (.seq x y) N R X ds m H w :=
  fun a ha hh => wpIn_seq (wpIn_mono (h a ha hh) fun e a' w' hq => by
    cases e with
    | normal => obtain ⟨ds, a0, m, H, rfl, h1, h2, h3⟩ := hq; exact h3 a0 h1 h2
    | ret => exact hq
    | exit id => exact hq
    | goto l => exact hq
    | panic c => exact hq
    | outgrown => exact hq)
theorem g_skip (h : N ds m H w) : G P n w0 F0 r .skip N R X ds m H w := fun a ha hh => wpIn_skip ⟨ds, a, m, H, rfl, ha, hh, h⟩
theorem g_ret (h : R ds m H w) : G P n w0 F0 r .ret N R X ds m H w := fun a ha hh => wpIn_ret ⟨ds, a, m, H, rfl, ha, hh, h⟩
theorem g_exit {id : Nat} (h : X id ds m H w) : G P n w0 F0 r (.exit id) N R X ds m H w := fun a ha hh => wpIn_exit ⟨ds, a, m, H, rfl, ha, hh, h⟩
theorem g_if {c : Operand} {x y : Code} {b : Bool} (hc : ev m c = some (.bool b)) (ht : b = true → G P n w0 F0 r x N R X ds m H w)
    (hf : b = false → G P n w0 F0 r y N R X ds m H w) : G P n w0 F0 r (.cond c x y) N R X ds m H w := fun a ha hh => by
  cases b with
  | true => exact wpIn_cond (t := true) (by rw [bk_eval]; exact ha.eval hc) (ht rfl a ha hh)
  | false => exact wpIn_cond (t := false) (by rw [bk_eval]; exact ha.eval hc) (hf rfl a ha hh)
theorem g_ifd {c : Operand} {x y : Code} {p : Prop} [Decidable p] (hc : ev m c = some (.bool (decide p))) (ht : p → G P n w0 F0 r x N R X ds m H w)
    (hf : ¬ p → G P n w0 F0 r y N R X ds m H w) : G P n w0 F0 r (.cond c x y) N R X ds m H w :=
  g_if hc (fun h => ht (of_decide_eq_true h)) (fun h => hf (of_decide_eq_false h))
theorem g_ifb {c : Operand} {x y : Code} {b : Bool} (hc : ev m c = some (.bool b)) (ht : b = true → G P n w0 F0 r x N R X ds m H w)
    (hf : ¬ b = true → G P n w0 F0 r y N R X ds m H w) : G P n w0 F0 r (.cond c x y) N R X ds m H w := g_if hc ht fun h => hf (by simp [h])
theorem g_sub {c : Code} (m' : Env) (hs : Sub m' m) (h : G P n w0 F0 r c N R X ds m' H w) : G P n w0 F0 r c N R X ds m H w := fun a ha hh => h a (ha.sub hs) hh
theorem g_perm {c : Code} (H' : List Res) (hp : H.Perm H') (h : G P n w0 F0 r c N R X ds m H' w) : G P n w0 F0 r c N R X ds m H w := fun a ha hh => h a ha (hh.perm hp)
theorem g_pick {c : Code} (is : List Nat) {L E : List Res} (hp : pick is H = some (L, E)) (h : G P n w0 F0 r c N R X ds m L w) : G P n w0 F0 r c N R X ds m H w := fun a ha hh => h a ha (hh.pick (pick_perm _ _ hp))
theorem g_with {c : Code} (h : Holds w0 F0 H w → G P n w0 F0 r c N R X ds m H w) : G P n w0 F0 r c N R X ds m H w := fun a ha hh => h hh a ha hh
theorem g_post {c : Code} (M : CondG) (h1 : G P n w0 F0 r c M R X ds m H w) (h2 : ∀ ds m H w, M ds m H w → N ds m H w) : G P n w0 F0 r c N R X ds m H w :=
  h1.mono h2 (fun _ _ _ _ h => h) (fun _ _ _ _ _ h => h)
theorem g_reg {id : Nat} {l : List Oper} (hd : noDefer l) (h : WL P n w0 F0 l.toArray (N ds) l m H w) : G P n w0 F0 r (.region id l.toArray false) N R X ds m H w :=
  fun a ha hh => wpIn_region_lit (list_bk (Q := fun e a w => match e with | .normal => ∃ m' H', Fr n m' a ∧ Holds w0 F0 H' w ∧ N ds m' H' w | _ => False) ds (fun _ _ h => h) (fun _ _ _ h => h)
    (fun a w h => by obtain ⟨m', H', h1, h2, h3⟩ := h; exact ⟨ds, a, m', H', rfl, h1, h2, h3⟩) l a w hd (h a ha hh _ fun a' w' hq => hq))
end
end Go.Proofs.YtmagdjlcckgkpaaGreat

/- The proof kit, fourteenth part: loops and calls of yield in code that is walked in a fence; a function that ranges over another. -/
namespace Go.Proofs.YtmagdjlcckgkpaaGreat
open Go.RowKit

section
variable {P : Program} {n : Nat} {w0 : World} {F0 : Nat → Prop} {r : Option Nat} {N R : CondG} {X : Nat → CondG} {ds : List Deferred} {m : Env} {H : List Res} {w : World}

def blkG (id : Nat) (N : CondG) (X : Nat → CondG) : Nat → CondG := fun i ds m H w => bif Nat.beq i id then N ds m H w else X i ds m H w
theorem g_block {id : Nat} {c : Code} (h : G P n w0 F0 r c N R (blkG id N X) ds m H w) : G P n w0 F0 r (.block id c) N R X ds m H w :=
  fun a ha hh => wpIn_block (wpIn_mono (h a ha hh) fun e a' w' hq => by
    cases e with
    | normal => exact hq
    | ret => exact hq
    | exit i =>
      obtain ⟨ds, a0, m, H, h0, h1, h2, h3⟩ := hq
      simp only [blkG] at h3
      simp only [Exit.inBlock]
      by_cases hi : i = id
      · subst hi
        simp only [Nat.beq_refl, cond_true] at h3
        rw [if_pos rfl]
        exact ⟨ds, a0, m, H, h0, h1, h2, h3⟩
      · have : Nat.beq i id = false := by
          cases hb : Nat.beq i id with
          | false => rfl
          | true => exact absurd (Nat.eq_of_beq_eq_true hb) hi
        simp only [this, cond_false] at h3
        rw [if_neg hi]
        exact ⟨ds, a0, m, H, h0, h1, h2, h3⟩
    | goto l => exact hq
    | panic c => exact hq
    | outgrown => exact hq)
theorem g_exit0 {id : Nat} (h : N ds m H w) {N' : CondG} : G P n w0 F0 r (.exit id) N' R (blkG id N X) ds m H w := g_exit (by simp only [blkG, Nat.beq_refl, cond_true]; exact h)
theorem g_loop {c : Code} (I : Nat → CondG) (k0 : Nat) (h0 : I k0 ds m H w)
    (hr : ∀ k ds m H w, I k ds m H w → G P n w0 F0 r c (fun ds' m' H' w' => ∃ k', k' < k ∧ I k' ds' m' H' w') R X ds m H w) : G P n w0 F0 r (.loop c) N R X ds m H w := fun a ha hh => by
  refine wpIn_loop_ghost (fun k a w => at_ n w0 F0 (I k) a w) k0 ⟨ds, a, m, H, rfl, ha, hh, h0⟩ ?_
  rintro k _ w ⟨ds, a, m, H, rfl, ha, hh, hI⟩
  refine wpIn_mono (hr k ds m H w hI a ha hh) fun e a' w' hq => ?_
  cases e with
  | normal => obtain ⟨ds', a0, m', H', h0, h1, h2, k', h3, h4⟩ := hq; exact ⟨k', h3, ds', a0, m', H', h0, h1, h2, h4⟩
  | ret => exact hq
  | exit id => exact hq
  | goto l => exact hq
  | panic c => exact hq
  | outgrown => exact hq

/-- A region in code that is walked in a fence, operation by operation. -/
def GL (P : Program) (n : Nat) (w0 : World) (F0 : Nat → Prop) (r : Option Nat) (ops : Array Oper) (N : CondG) (l : List Oper) (ds : List Deferred) (m : Env) (H : List Res) (w : World) : Prop :=
  ∀ a, Fr n m a → Holds w0 F0 H w → ∀ Q : Exit → Act → World → Prop, (∀ a' w', at_ n w0 F0 N a' w' → Q .normal a' w') → wpListIn (fen r) 0 P ops Q l (bk a ds) w
theorem g_regl {id : Nat} {l : List Oper} (h : GL P n w0 F0 r l.toArray N l ds m H w) : G P n w0 F0 r (.region id l.toArray false) N R X ds m H w :=
  fun a ha hh => wpIn_region_lit (h a ha hh _ fun _ _ hq => hq)
variable {ops : Array Oper} {op : Op} {ty : TypeId} {pos : String} {af : Array Edge} {d : Tmp} {v : Value} {rest : List Oper} {Φ : Value → List Res → Prop}
theorem gl_end (m' : Env) (hs : Sub m' m) (h : N ds m' H w) : GL P n w0 F0 r ops N [] ds m H w := fun a ha hh _ hQ => wpListIn_nil (hQ _ w ⟨ds, a, m', H, rfl, ha.sub hs, hh, h⟩)
theorem gl_f (hop : ∀ c, op ≠ .defer c) (h : Flt P n w0 F0 op ty m H v) (hk : GL P n w0 F0 r ops N rest ds ((d, v) :: m) H w) (hd : Nat.blt d n = true := by rfl) :
    GL P n w0 F0 r ops N (⟨some d, op, ty, pos, af, .none⟩ :: rest) ds m H w := fun a ha hh Q hQ =>
  wpListIn_plain rfl fun K hK => by
    refine ⟨fun _ _ => trivial, ?_⟩
    rw [Oper.semAt_eq _ _ _ hop, bk_eval, h _ a w rfl rfl ha hh]
    simp only [Oper.uponIn]
    rw [bk_put]
    exact hK _ _ (hk _ (ha.put hd v) hh Q hQ)
theorem gl_e (hop : ∀ c, op ≠ .defer c) (h : Eff P n w0 F0 op ty m H w Φ) (hk : ∀ v H' w', Φ v H' → GL P n w0 F0 r ops N rest ds ((d, v) :: m) H' w') (hd : Nat.blt d n = true := by rfl) :
    GL P n w0 F0 r ops N (⟨some d, op, ty, pos, af, .none⟩ :: rest) ds m H w := fun a ha hh Q hQ =>
  wpListIn_plain rfl fun K hK =>
    oper_bk (P := P) (Q := fun _ _ _ => False) (K := fun a' w' => ∃ v H', a' = a.put (some d) v ∧ Φ v H' ∧ Holds w0 F0 H' w') ds hop (fun _ _ h => h) (fun _ _ _ h => h)
      (fun a' w' hk' => by obtain ⟨v, H', rfl, hp, hh'⟩ := hk'; exact hK _ _ (hk v H' w' hp _ (ha.put hd v) hh' Q hQ))
      (h _ a _ _ rfl rfl ha hh fun v H' w' hp hh' => ⟨v, H', rfl, hp, hh'⟩)

/-- A call of a loop's body returns; of what was there only F may have changed; it leaves the resources H1. -/
def YSpec (P : Program) (l : Nat) (args : List Value) (w : World) (F : Nat → Prop) (Φ : Value → List Res → Prop) : Prop :=
  YieldAt (fen .none) 0 P l args.toArray w fun e w' => ∃ v H1, e = .returned v ∧ Holds w F H1 w' ∧ Φ v H1
theorem holds_self {Hc Hr : List Res} (h : Holds w0 F0 (Hc ++ Hr) w) : Holds w (feet Hc) Hc w := by
  refine ⟨Frm.refl _ _, ?_⟩
  have hcs := (Hs.append.1 h.2).1
  have key : ∀ L : List Res, Hs w0 F0 L w → (∀ r ∈ L, ∀ k, r.foot k → feet Hc k) → Hs w (feet Hc) L w := by
    intro L
    induction L with
    | nil => exact fun _ _ => trivial
    | cons r L ih => exact fun h hin => ⟨⟨h.1.1, fun k hk => ⟨(h.1.2.1 k hk).1, .inr (hin r (List.mem_cons_self ..) k hk)⟩, h.1.2.2⟩, ih h.2 fun s hs => hin s (List.mem_cons_of_mem _ hs)⟩
  exact key Hc hcs fun r hr k hk => ⟨r, hr, hk⟩
theorem gl_yield {l : Nat} {x : Operand} {xs : List Operand} {vs : List Value} {ts : Array TypeId} (Hc Hr : List Res) (hx : ev m x = some (.func (.yield l) #[] #[])) (hxs : evs m xs = some vs) (hH : H.Perm (Hc ++ Hr))
    (hc : Holds w0 F0 H w → Holds w (feet Hc) Hc w → YSpec P l vs w (feet Hc) Φ)
    (hk : ∀ v H1 w', Φ v H1 → GL P n w0 F0 .none ops N rest ds ((d, v) :: m) (H1 ++ Hr) w') (hd : Nat.blt d n = true := by rfl) :
    GL P n w0 F0 .none ops N (⟨some d, .call { callee := .value x, args := xs.toArray, argTypes := ts }, ty, pos, af, .none⟩ :: rest) ds m H w := fun a ha hh Q hQ =>
  wpListIn_plain rfl fun K hK => by
    refine ⟨fun _ _ => trivial, ?_⟩
    have hargs : (xs.toArray.map a.eval) = vs.toArray := by
      apply Array.ext'
      simpa using ha.evals _ hxs
    have hperm := hh.perm hH
    obtain ⟨fn, tmps, assign, body, hy, hround⟩ := hc hh (holds_self hperm)
    have hrun : (execOp a.eval ⟨some d, .call { callee := .value x, args := xs.toArray, argTypes := ts }, ty, pos, af, .none⟩).run P w = .ok (.round l fn tmps assign body) w := by
      simp only [execOp, resolve, ha.eval hx, Deferred.ofValue, invoke, hargs, Sem.run_bind, Sem.run_pure, Result.andThen_ok, Array.empty_append, Array.append_empty, hy]
    rw [Oper.semAt_eq _ _ _ (by simp), bk_eval, hrun]
    refine ⟨fun h => (by cases h), hround.mono ?_⟩
    rintro e w' ⟨v, H1, rfl, hh1, hp⟩
    dsimp only
    rw [bk_put]
    exact hK _ _ (hk v H1 w' hp _ (ha.put hd v) (hperm.call hh1) Q hQ)
end
end Go.Proofs.YtmagdjlcckgkpaaGreat

/- The proof kit, fifteenth part: the statement that ranges over a function; a round of it; a function that holds one. -/
namespace Go.Proofs.YtmagdjlcckgkpaaGreat
open Go.RowKit

/-- A block that is no cells. -/
def ob (b : Nat) (o : Obj) : Res where
  foot := fun k => k = b
  ok := fun w => w.heap[b]? = some o
  loc := fun _ _ h hw => (h b rfl).trans hw
theorem Holds.allocO {w0 w : World} {F0 : Nat → Prop} {H : List Res} (h : Holds w0 F0 H w) (o : Obj) : Holds w0 F0 (ob w.heap.size o :: H) (w.alloc o) := by
  refine ⟨h.1.trans (Frm.alloc (fun _ => False) w _) (fun _ hx => hx.elim), ⟨heap_alloc_new w _, ?_, ?_⟩, ?_⟩
  · rintro k rfl
    exact ⟨by simp, .inl h.1.size⟩
  · intro s hs k hk
    have := ((h.2.mem s hs).2 k)
    intro hf
    have h1 := (this hf).1
    simp only [ob] at hk
    omega
  · refine h.2.keep (fun r hr k hk => heap_alloc_old w _ ((h.2.mem r hr).2 k hk).1) (by simp)
theorem Holds.put {w0 w : World} {F0 : Nat → Prop} {H : List Res} {b : Nat} {o : Obj} (h : Holds w0 F0 (ob b o :: H) w) (o' : Obj) : Holds w0 F0 (ob b o' :: H) (w.putObj b o') := by
  have hb : w.heap[b]? = some o := h.2.1.1
  have hlt : b < w.heap.size := (Array.getElem?_eq_some_iff.1 hb).1
  exact h.change (H1 := []) (r := ob b o) (r' := ob b o') ⟨rfl, rfl, rfl, by simp, fun k _ hk => World.putObj_heap_other (fun e => hk e)⟩ (World.putObj_heap_same hlt) (fun k hk => .inl hk)

def lrec (fn : FuncId) (tmps : Array Value) (ps : Array Tmp) (assign body : Code) (D : Nat) (st : LoopState) (pe : Option Code) : Loop := { state := st, pending := pe, fn, tmps, params := ps, assign, body, defers := D }
/-- As Spec, of an iterator. -/
def ISpec (P : Program) (f : FuncId) (args : List Value) (w : World) (F : Nat → Prop) (Φ : Value → List Res → Prop) : Prop :=
  CallsIn (fen .none) 0 P f args.toArray w fun e w' => ∃ v H1, e = .returned v ∧ Holds w F H1 w' ∧ Φ v H1
theorem ISpec.of_spec {P : Program} {f : FuncId} {args : List Value} {w : World} {F : Nat → Prop} {Φ : Value → List Res → Prop} (h : Spec P f args w F Φ) : ISpec P f args w F Φ := callsIn_fen h
theorem ISpec.spec {P : Program} {f : FuncId} {args : List Value} {w : World} {F : Nat → Prop} {Φ : Value → List Res → Prop} (h : ISpec P f args w F Φ) : Spec P f args w F Φ := (callsIn_wide (n := 0)).1 h

section
variable {P : Program} {n : Nat} {w0 : World} {F0 : Nat → Prop} {N R : CondG} {X : Nat → CondG} {m : Env} {H : List Res} {w : World}

theorem gl_perm {r : Option Nat} {ops : Array Oper} {l : List Oper} {ds : List Deferred} (H' : List Res) (hp : H.Perm H') (h : GL P n w0 F0 r ops N l ds m H' w) : GL P n w0 F0 r ops N l ds m H w := fun a ha hh => h a ha (hh.perm hp)
def notDefer (o : Oper) : Bool := match o.op with
  | .defer _ => false
  | _ => true
theorem noDefer_of {l : List Oper} (h : l.all notDefer = true) : noDefer l := fun o ho c e => by
  have := List.all_eq_true.1 h o ho
  rw [notDefer, e] at this
  cases this

/-- One round with two loop variables. -/
theorem y_round {fn : FuncId} {a : Act} {p1 p2 : Tmp} {v1 v2 : Value} {assign body : Code} {D l : Nat} {Φ : Value → List Res → Prop} {F : Nat → Prop} (ha : Fr n m a) (hp1 : Nat.blt p1 n = true) (hp2 : Nat.blt p2 n = true)
    (hh : Holds w F (ob l (.loop (lrec fn a.tmps #[p1, p2] assign body D .ready .none)) :: H) w)
    (h : G P n w F (some l) assign (fun ds m1 H1 w1 => ds = [] ∧ ∃ Hr, H1.Perm (ob l (.loop (lrec fn a.tmps #[p1, p2] assign body D .ready .none)) :: Hr) ∧
      ∀ w2, G P n w F (some l) body (fun ds m2 H2 w3 => ds = [] ∧ ∃ Hr2, H2.Perm (ob l (.loop (lrec fn a.tmps #[p1, p2] assign body D .busy .none)) :: Hr2) ∧
          Φ (.bool true) (ob l (.loop (lrec fn a.tmps #[p1, p2] assign body D .ready .none)) :: Hr2))
        (fun _ _ _ _ => False) (fun _ _ _ _ _ => False) [] m1 (ob l (.loop (lrec fn a.tmps #[p1, p2] assign body D .busy .none)) :: Hr) w2)
      (fun _ _ _ _ => False) (fun _ _ _ _ _ => False) [] ((p2, v2) :: (p1, v1) :: m) (ob l (.loop (lrec fn a.tmps #[p1, p2] assign body D .ready .none)) :: H) w) :
    YSpec P l [v1, v2] w F Φ := by
  have hl : w.heap[l]? = some (.loop (lrec fn a.tmps #[p1, p2] assign body D .ready .none)) := hh.2.1.1
  have hy := run_yield (P := P) (args := #[v1, v2]) hl rfl
  refine ⟨fn, _, assign, body, hy, roundIn_of_wpIn trivial ?_⟩
  have hfr : Fr n ((p2, v2) :: (p1, v1) :: m) ((a.put (some p1) v1).put (some p2) v2) := (ha.put hp1 v1).put hp2 v2
  have hact : ({ tmps := (#[p1, p2].zip #[v1, v2]).foldl (fun tmps (t, a) => tmps.setIfInBounds t a) a.tmps, defers := [] } : Act) = bk ((a.put (some p1) v1).put (some p2) v2) [] := by
    rw [bk_nil]
    have hd := hfr.defers
    have e : #[p1, p2].zip #[v1, v2] = #[(p1, v1), (p2, v2)] := by simp
    simp only [Act.put] at hd ⊢
    rw [hd, e]
    simp
  have hwalk := h _ hfr hh
  rw [← hact] at hwalk
  refine wpIn_mono (n := 0) hwalk fun e a1 w1 hq => ?_
  cases e with
  | normal =>
    obtain ⟨ds, a2, m1, H1, rfl, hf1, hh1, rfl, Hr, hp, hb⟩ := hq
    have hh1' := hh1.perm hp
    have hl1 : w1.heap[l]? = some (.loop (lrec fn a.tmps #[p1, p2] assign body D .ready .none)) := hh1'.2.1.1
    refine ⟨_, run_beginRound hl1 rfl, ?_⟩
    refine wpIn_mono (n := 0) (hb _ a2 hf1 (hh1'.put _)) fun e a3 w3 hq => ?_
    cases e with
    | normal =>
      obtain ⟨ds, a4, m2, H2, rfl, hf2, hh2, rfl, Hr2, hp2, hΦ⟩ := hq
      have hh2' := hh2.perm hp2
      have hl2 : w3.heap[l]? = some (.loop (lrec fn a.tmps #[p1, p2] assign body D .busy .none)) := hh2'.2.1.1
      exact ⟨_, _, run_endRound .none hl2, .bool true, _, rfl, hh2'.put _, hΦ⟩
    | ret => obtain ⟨_, _, _, _, _, _, _, h⟩ := hq; exact h.elim
    | exit id => obtain ⟨_, _, _, _, _, _, _, h⟩ := hq; exact h.elim
    | goto t => exact (hq : False).elim
    | panic c => exact (hq : False).elim
    | outgrown => exact (hq : False).elim
  | ret => obtain ⟨_, _, _, _, _, _, _, h⟩ := hq; exact h.elim
  | exit id => obtain ⟨_, _, _, _, _, _, _, h⟩ := hq; exact h.elim
  | goto t => exact (hq : False).elim
  | panic c => exact (hq : False).elim
  | outgrown => exact (hq : False).elim

def mark (D : Nat) : Deferred := { target := .collected D, args := #[] }
/-- The statement: the iterator is handed the loop's record and Hx. -/
theorem g_range {g : Operand} {ps : Array Tmp} {assign body : Code} {gf : FuncId} {lb : Array Value} {gfn : Func} (Hx Hr : List Res) (hg : ev m g = some (.func (.func gf) #[] lb))
    (hf : P.funcs[gf]? = some gfn) (hb : (gfn.body.isNone, gfn.name == "runtime.NumGoroutine") = (false, false)) (hH : H.Perm (Hx ++ Hr))
    (h : ∀ (fn : FuncId) (a : Act) (l D : Nat) (w1 : World), Fr n m a → Holds w0 F0 (ob l (.loop (lrec fn a.tmps ps assign body D .ready .none)) :: Hx ++ (ob D (.deferred (some [])) :: Hr)) w1 →
      Holds w1 (feet (ob l (.loop (lrec fn a.tmps ps assign body D .ready .none)) :: Hx)) (ob l (.loop (lrec fn a.tmps ps assign body D .ready .none)) :: Hx) w1 →
      ISpec P gf (.func (.yield l) #[] #[] :: lb.toList) w1 (feet (ob l (.loop (lrec fn a.tmps ps assign body D .ready .none)) :: Hx)) fun _ H1 =>
        ∃ H2, H1.Perm (ob l (.loop (lrec fn a.tmps ps assign body D .ready .none)) :: H2) ∧ ∀ w', N [mark D] m (ob D (.deferred (some [])) :: (H2 ++ Hr)) w') :
    G P n w0 F0 .none (.rangeFunc g ps assign body) N R X [] m H w := fun a ha hh => by
  rw [bk_nil]
  refine wpIn_rangeFunc fun fn _ => ?_
  have hD := (hh.perm hH).allocO (.deferred (some []))
  have hL := hD.allocO (.loop (lrec fn a.tmps ps assign body w.heap.size .ready .none))
  rw [World.size_alloc] at hL
  have hperm : (ob (w.heap.size + 1) (.loop (lrec fn a.tmps ps assign body w.heap.size .ready .none)) :: ob w.heap.size (.deferred (some [])) :: (Hx ++ Hr)).Perm
      (ob (w.heap.size + 1) (.loop (lrec fn a.tmps ps assign body w.heap.size .ready .none)) :: Hx ++ (ob w.heap.size (.deferred (some [])) :: Hr)) := by
    rw [List.cons_append]
    exact List.Perm.cons _ List.perm_middle.symm
  have hL' := hL.perm hperm
  have hcf : ∀ (args : Array Value) (w : World), (callFunc gf args).run P w = .ok (.enter gf args) w := fun args w => by
    injection hb with hb1 hb2
    simp only [callFunc, Sem.run_bind, run_program, Result.andThen_ok, hf, hb1, hb2, Bool.false_eq_true, if_false, Sem.run_pure]
  obtain ⟨W1, hW1⟩ : ∃ W1, (w.alloc (.deferred (some []))).alloc (.loop (lrec fn a.tmps ps assign body w.heap.size .ready .none)) = W1 := ⟨_, rfl⟩
  rw [hW1] at hL'
  refine ⟨w.heap.size + 1, [mark w.heap.size], W1, { target := .fn (.func gf) lb, args := #[.func (.yield (w.heap.size + 1)) #[] #[]] }, W1, gf, #[.func (.yield (w.heap.size + 1)) #[] #[]] ++ lb, W1,
    ?_, ?_, fun _ _ => trivial, ?_, fun h => (by cases h), ?_⟩
  · rw [← hW1]; exact run_enterLoop_outer _ _ _ _ _
  · simp only [resolve, ha.eval hg]
    simp [go_sem]
  · simp [invoke, go_sem, hcf]
  · have hI := h fn a (w.heap.size + 1) w.heap.size _ ha hL' (holds_self hL')
    have e : (Value.func (.yield (w.heap.size + 1)) #[] #[] :: lb.toList).toArray = #[.func (.yield (w.heap.size + 1)) #[] #[]] ++ lb := by
      apply Array.ext'
      simp
    unfold ISpec at hI
    rw [e] at hI
    refine CallsIn.mono hI ?_
    rintro e w' ⟨v, H1, rfl, hh1, H2, hp, hN⟩
    have hh2 := (hL'.call hh1).perm (hp.append_right _)
    have hl : w'.heap[w.heap.size + 1]? = some (.loop (lrec fn a.tmps ps assign body w.heap.size .ready .none)) := hh2.2.1.1
    refine ⟨.none, _, run_endLoop hl (by simp [lrec]), [mark w.heap.size], a, m, _, ?_, ha, ?_, hN _⟩
    · have := ha.defers
      simp only [bk, this, List.nil_append, List.append_nil]
    · have hh3 := hh2.put (.loop { lrec fn a.tmps ps assign body w.heap.size .ready .none with state := .exhausted })
      exact (hh3.drop_ (List.sublist_cons_self ..)).perm List.perm_middle

/-- A function that holds a range, or an iterator. -/
theorem g_enter {f : FuncId} {fn : Func} {c : Code} {args : List Value} {F : Nat → Prop} {Φ : Value → List Res → Prop}
    (hf : P.funcs[f]? = some fn) (hb : fn.body = some c) (hn : fn.ntmps = n) (m : Env) (hl : Nat.ble args.length n = true) (hm : SubL m args)
    (hh : Holds w F H w)
    (h : G P n w F .none c
      (fun ds m H w' => ∃ v H1 Hd, (∀ a w2, Fr n m a → Holds w F Hd w2 → (results fn a.tmps).run P w2 = .ok v w2) ∧ H1.Sublist Hd ∧ Φ v H1 ∧ (ds = [] ∧ Hd = H ∨ ∃ D, ds = [mark D] ∧ H.Perm (ob D (.deferred (some [])) :: Hd)))
      (fun ds m H w' => ∃ v H1 Hd, (∀ a w2, Fr n m a → Holds w F Hd w2 → (results fn a.tmps).run P w2 = .ok v w2) ∧ H1.Sublist Hd ∧ Φ v H1 ∧ (ds = [] ∧ Hd = H ∨ ∃ D, ds = [mark D] ∧ H.Perm (ob D (.deferred (some [])) :: Hd)))
      (fun _ _ _ _ _ => False) [] m H w) :
    ISpec P f args w F Φ := by
  have hl := Nat.le_of_ble_eq_true hl
  have hfr : Fr n m { tmps := args.toArray ++ Array.replicate (fn.ntmps - args.toArray.size) undef, defers := [] } := by
    refine ⟨?_, rfl, ?_⟩
    · simp only [List.size_toArray, Array.size_append, Array.size_replicate, hn]; omega
    · intro t v hv
      have := hm.get t v hv
      have hlt : t < args.length := (List.getElem?_eq_some_iff.1 this).1
      rw [Array.getElem?_append_left (by simpa using hlt)]
      simpa using this
  have hwalk := h _ hfr hh
  rw [bk_nil] at hwalk
  refine callsIn_of_wp_marks hf hb trivial (wpIn_mono (n := 0) hwalk fun e a' w' hq => ?_)
  have fin : ∀ ds a0 m H, Fr n m a0 → Holds w F H w' → (∃ v H1 Hd, (∀ a w2, Fr n m a → Holds w F Hd w2 → (results fn a.tmps).run P w2 = .ok v w2) ∧ H1.Sublist Hd ∧ Φ v H1 ∧ (ds = [] ∧ Hd = H ∨ ∃ D, ds = [mark D] ∧ H.Perm (ob D (.deferred (some [])) :: Hd))) →
      LeavesInM (fen .none) 0 P fn (bk a0 ds).tmps (fun e w' => ∃ v H1, e = .returned v ∧ Holds w F H1 w' ∧ Φ v H1) (bk a0 ds).defers .returning w' := by
    rintro ds a0 m H h1 h2 ⟨v, H1, Hd, hr, hs, hp, ⟨rfl, rfl⟩ | ⟨D, rfl, hperm⟩⟩
    · rw [bk_nil, h1.defers]
      exact ⟨v, hr a0 w' h1 h2, v, H1, rfl, h2.drop_ hs, hp⟩
    · have hd : (bk a0 [mark D]).defers = [mark D] := by simp [bk, h1.defers]
      rw [hd]
      have h2' := h2.perm hperm
      have hb : w'.heap[D]? = some (.deferred (some [])) := h2'.2.1.1
      have h3 := (h2'.put (.deferred .none)).drop_ (List.sublist_cons_self ..)
      exact ⟨by simp, .inl ⟨D, _, rfl, run_takeDeferred hb, v, hr a0 _ h1 h3, v, H1, rfl, h3.drop_ hs, hp⟩⟩
  cases e with
  | normal => obtain ⟨ds, a0, m, H, rfl, h1, h2, h3⟩ := hq; exact fin ds a0 m H h1 h2 h3
  | ret => obtain ⟨ds, a0, m, H, rfl, h1, h2, h3⟩ := hq; exact fin ds a0 m H h1 h2 h3
  | exit id => obtain ⟨_, _, _, _, _, _, _, h⟩ := hq; exact h.elim
  | goto t => exact (hq : False).elim
  | panic c => exact (hq : False).elim
  | outgrown => exact (hq : False).elim
end
end Go.Proofs.YtmagdjlcckgkpaaGreat

/- Tables by the method of Misra and Gries: what ranges over the tracked keys. -/
namespace Go.Proofs.YtmagdjlcckgkpaaGreat
open Go.RowKit

theorem tracked_spec (p : Option Addr) (w : World) : Spec Tryz.prog 156 [.pointer p] w Nil fun v H => ∃ b, v = .func (.func 160) #[] #[.pointer (some ⟨b, 0, .none⟩)] ∧ H = [blk b [.pointer p] 71] := by
  refine enter (n := 4) Tryz.func156 rfl rfl [(0, _)] rfl ⟨rfl, trivial⟩ (Holds.start _ _) ?_
  refine w_seq (w_reg (wl_e (e_box (cs := [_]) rfl rfl) ?_))
  rintro _ _ w0_0 ⟨b0_0, rfl, rfl⟩
  refine wl_f (f_assign rfl) (wl_end [(1, _)] ⟨rfl, trivial⟩ ?_)
  refine w_seq (w_reg (wl_f (f_makeFunc (fs := []) (cs := [_]) rfl rfl) ?_))
  refine wl_f (f_assign rfl) (wl_end [(2, _)] ⟨rfl, trivial⟩ ?_)
  refine w_ret ?_
  refine ⟨_, _, fun a ha hh => results_tmps Tryz.results156 rfl a ha _, List.Sublist.refl _, ?_⟩
  exact ⟨_, rfl, rfl⟩

/-- The cells of a table. -/
def ftab (t bX m ded total : Nat) : Res := blk t [.int .i64 (m : Int), .pointer (some ⟨bX, 0, .none⟩), .int .u64 (ded : Int), .int .u64 (total : Int)] 106
abbrev UM := List (ByteArray × Nat)

set_option maxHeartbeats 4000000 in
/-- The iterator: it hands its caller's body each key, in ascending order, with what the table then has for it. -/
theorem tracked1_spec (l bx t bX m ded total : Nat) (o r0 q0 : Res) (M0 : UM) (ks : List ByteArray) (T : List Nat) (w : World) (S : List ByteArray → UM → Res → Res → Prop) (hm : m ≤ 12)
    (hks : ks.Perm (keys M0)) (hss : Srts ks) (hsm : ∀ k ∈ ks, small k) (hS : ∀ pre M r q, S pre M r q → TbR xU64 bX m T 0 M r) (h0 : S [] M0 r0 q0)
    (hY : ∀ (pre : List ByteArray) (k : ByteArray) (rest : List ByteArray) (M : UM) (r q : Res) (w' : World), ks = pre ++ k :: rest → S pre M r q →
      Holds w' (feet [o, blk bx [.pointer (some ⟨t, 0, .none⟩)] 71, ftab t bX m ded total, r, q]) [o, blk bx [.pointer (some ⟨t, 0, .none⟩)] 71, ftab t bX m ded total, r, q] w' →
      YSpec Tryz.prog l [.string k, .int .u64 (((mget M k).getD 0 : Nat) : Int)] w' (feet [o, blk bx [.pointer (some ⟨t, 0, .none⟩)] 71, ftab t bX m ded total, r, q]) fun v H1 =>
        v = .bool true ∧ ∃ M' r' q', H1.Perm [o, blk bx [.pointer (some ⟨t, 0, .none⟩)] 71, ftab t bX m ded total, r', q'] ∧ S (pre ++ [k]) M' r' q')
    (hs : Holds w (feet [o, blk bx [.pointer (some ⟨t, 0, .none⟩)] 71, ftab t bX m ded total, r0, q0]) [o, blk bx [.pointer (some ⟨t, 0, .none⟩)] 71, ftab t bX m ded total, r0, q0] w) :
    ISpec Tryz.prog 160 [.func (.yield l) #[] #[], .pointer (some ⟨bx, 0, .none⟩)] w (feet [o, blk bx [.pointer (some ⟨t, 0, .none⟩)] 71, ftab t bX m ded total, r0, q0]) fun _ H1 =>
      ∃ M r q, H1.Perm [o, blk bx [.pointer (some ⟨t, 0, .none⟩)] 71, ftab t bX m ded total, r, q] ∧ S ks M r q := by
  have hX0 := hS _ _ _ _ h0
  have hM0 := hX0.len
  refine g_enter (n := 32) Tryz.func160 rfl rfl [(0, _), (1, _)] rfl ⟨rfl, rfl, trivial⟩ hs ?_
  refine g_seq ?_
  refine g_reg (noDefer_of rfl) ?_
  refine wl_f (f_loadb 1 rfl Tryz.underlying71 rfl rfl rfl) ?_
  refine wl_f (f_nilCheck rfl) (wl_f (f_fieldAddr 1 rfl Tryz.underlying106 rfl rfl (by kernel_rfl)) ?_)
  refine wl_f (f_loadb 2 rfl Tryz.underlying102 rfl rfl rfl) ?_
  refine wl_e (e_call1 r0 [_, _, _, _] rfl Tryz.func161 (by kernel_rfl) (pk1 3 rfl) (fun w hh hs' => ukeys_spec bX m T 0 M0 r0 w hm hX0 hs')) ?_
  rintro vk _ w1 ⟨_, rfl, ks', rfl, hkp, hks'⟩
  obtain rfl := srts_unique hks' hss (hkp.trans hks.symm)
  refine wl_with fun hh => ?_
  obtain ⟨Ak, ck, rfl⟩ := row_slice hh (i := 0) rfl
  clear hh
  have hkl : ks'.length = M0.length := by rw [hkp.length_eq, keys, List.length_map]
  refine wl_f (f_len rfl Tryz.underlying30) ?_
  refine wl_f (f_move rfl) (wl_pick [2, 2, 2, 1, 1, 0] rfl ?_)
  refine wl_end [(0, _), (1, _), (11, _), (12, _), (13, _)] ⟨rfl, rfl, rfl, rfl, rfl, trivial⟩ ?_
  refine g_block ?_
  refine g_loop (fun kk ds m' H w' => ds = [] ∧ ∃ (pre rest : List ByteArray) (M : UM) (r q : Res), m' = [(0, .func (.yield l) #[] #[]), (1, .pointer (some ⟨bx, 0, .none⟩)), (11, .slice Ak ks'.length ck), (12, .int .i64 ks'.length), (13, .int .i64 pre.length)] ∧
    H = [o, blk bx [.pointer (some ⟨t, 0, .none⟩)] 71, ftab t bX m ded total, r, q, row (.slice Ak ks'.length ck) 9 1 ks'.length (sv ks')] ∧ ks' = pre ++ rest ∧ kk = rest.length ∧ S pre M r q) ks'.length ⟨rfl, [], ks', M0, r0, q0, rfl, rfl, rfl, rfl, h0⟩ ?_
  rintro kk _ _ _ w2 ⟨rfl, pre, rest, M, r, q, rfl, rfl, hke, rfl, hSp⟩
  have hkel : ks'.length = pre.length + rest.length := by rw [hke]; simp
  have hX := hS _ _ _ _ hSp
  refine g_seq ?_
  refine g_reg (noDefer_of rfl) ?_
  refine wl_f (f_lss rfl rfl) ?_
  refine wl_end [(0, _), (1, _), (11, _), (12, _), (13, _), (14, _)] ⟨rfl, rfl, rfl, rfl, rfl, rfl, trivial⟩ ?_
  refine g_seq ?_
  refine g_ifd rfl (fun hc => ?_) (fun hc => ?_)
  · refine g_skip ?_
    have hc' : (pre.length : Int) < (ks'.length : Int) := hc
    obtain ⟨k, rest2, rfl⟩ : ∃ k rest2, rest = k :: rest2 := by
      cases rest with
      | nil => simp at hkel; omega
      | cons k rest2 => exact ⟨k, rest2, rfl⟩
    rw [List.length_cons] at hkel
    have hkk : ks'[pre.length]? = some k := by rw [hke]; simp
    have hksm := hsm k (List.mem_of_getElem? hkk)
    refine g_seq ?_
    refine g_block ?_
    refine g_seq ?_
    refine g_with fun hh => ?_
    obtain ⟨gk, ck2, e⟩ := row_form hh (i := 5) rfl (by omega)
    cases e
    clear hh
    refine g_reg (noDefer_of rfl) ?_
    refine wl_f (f_indexAddr 1 (i := pre.length) rfl rfl Tryz.underlying30 (by kernel_rfl) rfl (by omega)) ?_
    refine wl_f (f_loadr (v := .string k) 5 rfl Tryz.underlying9 rfl rfl (map_get Value.string hkk)) ?_
    refine wl_f (f_assign rfl) (wl_end [(0, _), (1, _), (4, _), (11, _), (12, _), (13, _)] ⟨rfl, rfl, rfl, rfl, rfl, rfl, trivial⟩ ?_)
    refine g_seq ?_
    refine g_reg (noDefer_of rfl) ?_
    refine wl_f (f_loadb 1 rfl Tryz.underlying71 rfl rfl rfl) ?_
    refine wl_f (f_nilCheck rfl) (wl_f (f_fieldAddr 1 rfl Tryz.underlying106 rfl rfl (by kernel_rfl)) ?_)
    refine wl_f (f_loadb 2 rfl Tryz.underlying102 rfl rfl rfl) ?_
    refine wl_f (f_move rfl) (wl_e (e_call1 r [_, _, _, _, _] rfl Tryz.func153 (by kernel_rfl) (pk1 3 rfl) (fun w hh hs' => uxget_spec bX m T 0 M r k w hksm hX hs')) ?_)
    rintro _ _ w3 ⟨_, rfl, rfl, rfl⟩
    refine wl_f (f_move rfl) (wl_f (f_extract rfl rfl) ?_)
    refine wl_f (f_extract rfl rfl) ?_
    refine wl_f (f_assign rfl) (wl_f (f_assign rfl) (wl_pick [1, 1, 1, 0, 0, 0] rfl ?_))
    refine wl_end [(0, _), (1, _), (4, _), (5, _), (11, _), (12, _), (13, _)] ⟨rfl, rfl, rfl, rfl, rfl, rfl, rfl, trivial⟩ ?_
    refine g_seq ?_
    refine g_regl ?_
    refine gl_f (by simp) (f_move rfl) ?_
    refine gl_f (by simp) (f_move rfl) ?_
    refine gl_f (by simp) (f_move rfl) ?_
    refine gl_yield [o, blk bx [.pointer (some ⟨t, 0, .none⟩)] 71, ftab t bX m ded total, r, q] [_] rfl rfl (List.Perm.refl _) (fun _ hself => hY pre k rest2 M r q _ hke hSp hself) ?_
    rintro v H1 w4 ⟨rfl, M', r', q', hp, hS'⟩
    refine gl_perm _ (hp.append_right _) ?_
    refine gl_f (by simp) (f_not rfl rfl) ?_
    refine gl_end [(0, _), (1, _), (11, _), (12, _), (13, _), (30, _)] ⟨rfl, rfl, rfl, rfl, rfl, rfl, trivial⟩ ?_
    refine g_if (b := false) rfl (fun h => by cases h) (fun _ => ?_)
    refine g_skip ?_
    refine g_reg (noDefer_of rfl) ?_
    refine wl_f (f_add rfl rfl (by omega)) ?_
    refine wl_f (f_move rfl) (wl_end [(0, _), (1, _), (11, _), (12, _), (13, _)] ⟨rfl, rfl, rfl, rfl, rfl, trivial⟩ ?_)
    refine ⟨rest2.length, Nat.lt_succ_self _, rfl, pre ++ [k], rest2, M', r', q', ?_, rfl, by rw [hke]; simp, rfl, hS'⟩
    rw [show ((pre ++ [k]).length : Int) = (pre.length : Int) + 1 by simp]
  · have hc' : ¬ (pre.length : Int) < (ks'.length : Int) := hc
    obtain rfl : rest = [] := by
      cases rest with
      | nil => rfl
      | cons k rest2 => rw [List.length_cons] at hkel; omega
    rw [List.append_nil] at hke
    refine g_exit0 ?_
    refine ⟨_, [o, blk bx [.pointer (some ⟨t, 0, .none⟩)] 71, ftab t bX m ded total, r, q], _, fun a w2 ha hh => results_tmps Tryz.results160 rfl a ha _, List.sublist_append_left _ [_], ⟨M, r, q, List.Perm.refl _, by rw [hke]; exact hSp⟩, .inl ⟨rfl, rfl⟩⟩
end Go.Proofs.YtmagdjlcckgkpaaGreat

/- The proof kit, sixteenth part: regions that draw their order, in code that is walked in a fence. -/
namespace Go.Proofs.YtmagdjlcckgkpaaGreat
open Go.RowKit
section
variable {P : Program} {n : Nat} {w0 : World} {F0 : Nat → Prop} {r : Option Nat} {N R : CondG} {X : Nat → CondG} {ds : List Deferred} {m : Env} {H : List Res} {w : World} {ops : Array Oper}

def QG (n : Nat) (w0 : World) (F0 : Nat → Prop) (N : Cond) : Exit → Act → World → Prop := fun e a w => match e with
  | .normal => ∃ m' H', Fr n m' a ∧ Holds w0 F0 H' w ∧ N m' H' w
  | _ => False
theorem all_noDefer {ops : Array Oper} (h : ops.toList.all notDefer = true) : noDefer ops.toList := noDefer_of h
theorem g_draw {id : Nat} (σ : List (Nat × Bool)) (Hst Hm : List Res) (hm : P.follows .mixedOrders = true) (hns : Region.noSelect ops = true) (hnd : ops.toList.all notDefer = true)
    (hok : okOrd ops (Array.replicate ops.size false) σ = true) (hlen : Nat.ble σ.length ops.size = true) (hH : H.Perm (Hst ++ Hm)) (h : ∀ w', WD P n w0 F0 ops (N ds) Hst σ m Hm w') :
    G P n w0 F0 r (.region id ops true) N R X ds m H w := fun a ha hh => by
  have hh' := (hh.perm hH).drew
  refine wpIn_region_any hm (any_bk (Q := QG n w0 F0 (N ds)) ds (all_noDefer hnd) (fun _ _ h => h) (fun _ _ _ h => h) (fun a w h => by obtain ⟨m', H', h1, h2, h3⟩ := h; exact ⟨ds, a, m', H', rfl, h1, h2, h3⟩) _ _ a _ (wpAny_of_held (S := fun w' => ∃ H', Holds w0 F0 (Hst ++ H') w') _ _ _ _ ?_))
  exact wd_sound hns _ (fun _ _ _ h => h) (fun _ _ hq => hq) σ _ _ m Hm a _ (Nat.le_of_ble_eq_true hlen) hok ha hh' (h _)
theorem g_drawk {id : Nat} (σ : List (Nat × Bool)) (Hst : List KRes) (Hm : List Res) (hm : P.follows .mixedOrders = true) (hns : Region.noSelect ops = true) (hnd : ops.toList.all notDefer = true)
    (hok : okOrd ops (Array.replicate ops.size false) σ = true) (hlen : Nat.ble σ.length ops.size = true) (hnk : allNoKill σ Hst = true) (hH : H.Perm (resOf' Hst ++ Hm))
    (h : ∀ w', WK P n w0 F0 ops (N ds) Hst σ m Hm w') :
    G P n w0 F0 r (.region id ops true) N R X ds m H w := fun a ha hh => by
  have hh' := (hh.perm hH).drew
  refine wpIn_region_any hm (any_bk (Q := QG n w0 F0 (N ds)) ds (all_noDefer hnd) (fun _ _ h => h) (fun _ _ _ h => h) (fun a w h => by obtain ⟨m', H', h1, h2, h3⟩ := h; exact ⟨ds, a, m', H', rfl, h1, h2, h3⟩) _ _ a _
    (wpAny_of_I _ _ _ _ (wk_sound (Hst0 := Hst) hns _ (fun _ _ _ h => h) (fun _ _ hq => hq) σ _ _ Hst m Hm a _ (Nat.le_of_ble_eq_true hlen) (by simp) hok ?_ (fun _ _ _ => rfl) ?_ ha hh' (h _) ?_)))
  · intro j o _ hl
    simp only [Array.getD_eq_getD_getElem?, Array.getElem?_replicate] at hl
    split at hl <;> simp at hl
  · intro r e _
    simp only [Array.getD_eq_getD_getElem?, Array.getElem?_replicate]
    split <;> simp
  · intro i hi
    have := List.all_eq_true.1 hnk (i, true) hi
    simpa using this
end
end Go.Proofs.YtmagdjlcckgkpaaGreat

/- Tables by the method of Misra and Gries: deducting. -/
namespace Go.Proofs.YtmagdjlcckgkpaaGreat
open Go.RowKit

theorem mget_cons_ne {α : Type} {M : List (ByteArray × α)} {k k' : ByteArray} {v : α} (h : k' ≠ k) : mget ((k', v) :: M) k = mget M k := by
  simp [mget, List.find?_cons, h]
theorem mget_mdel_ne {α : Type} {M : List (ByteArray × α)} {k k' : ByteArray} (h : k' ≠ k) : mget (mdel M k') k = mget M k := by
  induction M with
  | nil => rfl
  | cons x M ih =>
    obtain ⟨a, v⟩ := x
    by_cases e : a = k'
    · subst e
      rw [mdel_self, mget_cons_ne h]; exact ih
    · have e1 : mdel ((a, v) :: M) k' = (a, v) :: mdel M k' := by simp [mdel, e]
      rw [e1]
      by_cases e2 : a = k
      · subst e2; simp [mget, List.find?_cons]
      · rw [mget_cons_ne e2, mget_cons_ne e2]; exact ih
def dstep (d : Nat) (M : UM) (k : ByteArray) : UM := if (mget M k).getD 0 = d then mdel M k else (k, (mget M k).getD 0 - d) :: mdel M k
theorem dstep_ne {d : Nat} {M : UM} {k q : ByteArray} (h : k ≠ q) : mget (dstep d M k) q = mget M q := by
  unfold dstep
  split
  · exact mget_mdel_ne h
  · rw [mget_cons_ne h]; exact mget_mdel_ne h
theorem dfold_ne {d : Nat} {q : ByteArray} : ∀ (pre : List ByteArray) (M : UM), q ∉ pre → mget (pre.foldl (dstep d) M) q = mget M q
  | [], _, _ => rfl
  | k :: pre, M, h => by
    rw [List.foldl_cons, dfold_ne pre _ (fun hq => h (List.mem_cons_of_mem _ hq))]
    exact dstep_ne (fun e => h (by rw [e]; exact List.mem_cons_self ..))
theorem mget_key {α : Type} {M : List (ByteArray × α)} {k : ByteArray} {v : α} (h : mget M k = some v) : k ∈ keys M := by
  by_cases hk : k ∈ keys M
  · exact hk
  · rw [mget_none hk] at h; cases h
theorem ISpec.mono {P : Program} {f : FuncId} {args : List Value} {w : World} {F : Nat → Prop} {Φ Ψ : Value → List Res → Prop} (h : ISpec P f args w F Φ) (hi : ∀ v H1, Φ v H1 → Ψ v H1) : ISpec P f args w F Ψ :=
  CallsIn.mono h fun _ _ ⟨v, H1, he, hh, hp⟩ => ⟨v, H1, he, hh, hi v H1 hp⟩
section
variable {P : Program} {n : Nat} {w0 : World} {F0 : Nat → Prop} {r : Option Nat} {N R : CondG} {X : Nat → CondG} {ds : List Deferred} {m : Env} {H : List Res} {w : World}
theorem g_unb {c : Code} (L : List Res) (h : G P n w0 F0 r c N R X ds m (L ++ H) w) : G P n w0 F0 r c N R X ds m (bun L :: H) w := fun a ha hh => h a ha (Holds.bun.2 hh)
theorem g_bun {c : Code} (L : List Res) (h : G P n w0 F0 r c N R X ds m (bun L :: H) w) : G P n w0 F0 r c N R X ds m (L ++ H) w := fun a ha hh => h a ha (Holds.bun.1 hh)
theorem g_fin {c : Code} (M : CondG) (h : G P n w0 F0 r c M R X ds m H w) (hN : ∀ ds m H w, M ds m H w → ∃ H', (Holds w0 F0 H w → Holds w0 F0 H' w) ∧ N ds m H' w) : G P n w0 F0 r c N R X ds m H w :=
  fun a ha hh => wpIn_mono (n := 0) (h a ha hh) fun e a' w' hq => by
    cases e with
    | normal =>
      obtain ⟨ds, a0, m, H, h0, h1, h2, h3⟩ := hq
      obtain ⟨H', hc, hn⟩ := hN _ _ _ _ h3
      exact ⟨ds, a0, m, H', h0, h1, hc h2, hn⟩
    | ret => exact hq
    | exit id => exact hq
    | goto l => exact hq
    | panic c => exact hq
    | outgrown => exact hq
theorem g_body {c : Code} {b1 b2 o x tab r0 : Res} (Ψ : Res → Prop) (hN : ∀ r', Ψ r' → ∀ m w, N [] m [o, x, tab, r', bun [b1, b2]] w)
    (h : G P n w0 F0 r c (fun ds _ H2 _ => ds = [] ∧ ∃ r', H2.Perm ([b1, b2] ++ [o, x, tab, r']) ∧ Ψ r') R X [] m [b1, b2, o, x, tab, r0] w) : G P n w0 F0 r c N R X [] m [b1, b2, o, x, tab, r0] w :=
  g_fin _ h fun _ m H2 w9 ⟨e, r', hp, hΨ⟩ => by
    subst e
    exact ⟨[o, x, tab, r', bun [b1, b2]], fun hh => ((Holds.bun.1 (hh.perm hp)).perm (pick_perm [1, 1, 1, 1, 0] _ rfl)).perm (by simp), hN r' hΨ m w9⟩
end

set_option maxHeartbeats 4000000 in
theorem deduct_spec (t bX m ded total d : Nat) (M0 : UM) (T : List Nat) (r0 : Res) (w : World) (hm : m ≤ 12) (hr0 : TbR xU64 bX m T 0 M0 r0) (hsm : ∀ k ∈ keys M0, small k) (hd : ∀ k o, mget M0 k = some o → d ≤ o) (hdd : ded + d < 18446744073709551616) (hov : ∀ k o, mget M0 k = some o → o < 18446744073709551616)
    (ks : List ByteArray) (hks : ks.Perm (keys M0)) (hss : Srts ks)
    (hs : Holds w (bun [ftab t bX m ded total, r0]).foot [bun [ftab t bX m ded total, r0]] w) :
    ISpec Tryz.prog 157 [.pointer (some ⟨t, 0, .none⟩), .int .u64 (d : Int)] w (bun [ftab t bX m ded total, r0]).foot fun _ H1 =>
      ∃ r, H1.Perm [ftab t bX m (ded + d) total, r] ∧ TbR xU64 bX m T 0 (ks.foldl (dstep d) M0) r := by
  refine g_enter (n := 36) Tryz.func157 rfl rfl [(0, _), (1, _)] rfl ⟨rfl, rfl, trivial⟩ hs ?_
  refine g_seq ?_
  refine g_reg (noDefer_of rfl) ?_
  refine wl_e (e_box (cs := [_]) rfl rfl) ?_
  rintro _ _ w1 ⟨bt, rfl, rfl⟩
  refine wl_e (e_box (cs := [_]) rfl rfl) ?_
  rintro _ _ w2 ⟨bd, rfl, rfl⟩
  refine wl_end [(2, _), (3, _)] ⟨rfl, rfl, trivial⟩ ?_
  refine g_pick [2, 0, 0] rfl ?_
  refine g_unb [_, _] ?_
  refine g_seq ?_
  refine g_drawk [(0, true), (1, true), (2, true), (3, true), (4, true), (5, true), (6, true), (7, true), (8, false)] [(_, some 8), (_, none), (_, none), (_, none)] [] mixed (by kernel_rfl) rfl (by kernel_rfl) rfl rfl (perm_all _) (fun w3 => ?_)
  refine wk_f rfl (f_loadb 3 rfl Tryz.underlying71 rfl rfl rfl) ?_
  refine wk_f rfl (f_nilCheck rfl) (wk_f rfl (f_fieldAddr 2 rfl Tryz.underlying106 rfl rfl (by kernel_rfl)) ?_)
  refine wk_f rfl (f_loadb 0 rfl Tryz.underlying33 rfl rfl rfl) ?_
  refine wk_f rfl (f_loadb 2 rfl Tryz.underlying33 rfl rfl rfl) ?_
  refine wk_f rfl (f_eqv (v' := .int .u64 ((ded + d : Nat) : Int)) (f_addu rfl rfl (by omega)) (by rw [Int.natCast_add])) ?_
  refine wk_f rfl (f_nilCheck rfl) (wk_f rfl (f_fieldAddr 2 rfl Tryz.underlying106 rfl rfl (by kernel_rfl)) ?_)
  refine wk_e0 rfl (e_store0 (us := [_]) rfl rfl rfl (by kernel_rfl) (by simp [Value.oneCell']) rfl rfl) ?_
  rintro _ _ w4 rfl
  refine ⟨_, pick_perm [1, 1, 1] _ rfl, ?_⟩
  refine wk_end [(2, _), (3, _)] ⟨rfl, rfl, trivial⟩ ?_
  refine g_seq ?_
  refine g_reg (noDefer_of rfl) ?_
  refine wl_f (f_loadb 2 rfl Tryz.underlying71 rfl rfl rfl) ?_
  refine wl_e (e_call0 rfl Tryz.func156 (by kernel_rfl) (fun w hh => tracked_spec _ w)) ?_
  rintro _ _ w5 ⟨_, rfl, bx, rfl, rfl⟩
  refine wl_end [(2, _), (3, _), (15, _)] ⟨rfl, rfl, rfl, trivial⟩ ?_
  refine g_pick [2, 2, 0, 1, 0] rfl ?_
  refine g_bun (H := [_, _, _]) [_, _] ?_
  refine g_block ?_
  refine g_range [_, _, _, _] [] rfl Tryz.func160 (by kernel_rfl) (pick_perm [1, 1, 1, 0] _ rfl) ?_
  intro fn a l D w6 ha hh hself
  refine ISpec.mono (tracked1_spec l bx t bX m (ded + d) total _ r0 _ M0 ks T w6 (fun pre M r q => TbR xU64 bX m T 0 M r ∧ M = pre.foldl (dstep d) M0 ∧ q = bun [blk bd [.int .u64 (d : Int)] 33, blk bt [.pointer (some ⟨t, 0, .none⟩)] 71]) hm hks hss (fun k hk => hsm k (hks.mem_iff.1 hk)) (fun _ _ _ _ h => h.1) ⟨hr0, rfl, rfl⟩ ?_ hself) ?_
  · rintro pre k rest M r q w7 hke ⟨hX, hM, rfl⟩ hself2
    subst hM
    have hndk : ks.Nodup := hks.nodup_iff.2 hr0.nd
    have hkp : k ∉ pre := fun hk => by
      rw [hke] at hndk
      exact (List.nodup_append.1 hndk).2.2 k hk k (List.mem_cons_self ..) rfl
    have hkM : k ∈ keys M0 := hks.mem_iff.1 (by rw [hke]; simp)
    have hksm := hsm k hkM
    obtain ⟨ov, hov0⟩ := mem_keys.1 hkM
    have hg0 := mget_some hr0.nd hov0
    have hg : mget (pre.foldl (dstep d) M0) k = some ov := (dfold_ne pre M0 hkp).trans hg0
    have hdo := hd k ov hg0
    have hoo := hov k ov hg0
    have hkM2 := mget_key hg
    have hstep : (pre ++ [k]).foldl (dstep d) M0 = if ov = d then mdel (pre.foldl (dstep d) M0) k else (k, ov - d) :: mdel (pre.foldl (dstep d) M0) k := by
      rw [List.foldl_append, List.foldl_cons, List.foldl_nil]
      generalize pre.foldl (dstep d) M0 = M at hg ⊢
      rw [dstep, hg, Option.getD_some]
    rw [hg, Option.getD_some]
    generalize pre.foldl (dstep d) M0 = M at hX hg hkM2 hstep hself2 ⊢
    refine y_round (n := 36) ha rfl rfl hself2 ?_
    refine g_seq ?_
    refine g_reg (noDefer_of rfl) ?_
    refine wl_f (f_assign rfl) (wl_end [(2, _), (3, _), (4, _), (17, _)] ⟨rfl, rfl, rfl, rfl, trivial⟩ ?_)
    refine g_reg (noDefer_of rfl) ?_
    refine wl_f (f_assign rfl) (wl_end [(2, _), (3, _), (4, _), (5, _)] ⟨rfl, rfl, rfl, rfl, trivial⟩ ?_)
    refine ⟨rfl, _, List.Perm.refl _, fun w8 => ?_⟩
    refine g_pick [4, 0, 0, 0, 0] rfl ?_
    refine g_unb [_, _] ?_
    refine g_body (fun r' => TbR xU64 bX m T 0 ((pre ++ [k]).foldl (dstep d) M0) r') (fun r' hX' m w => ⟨rfl, _, List.Perm.refl _, rfl, _, r', _, List.Perm.refl _, hX', rfl, rfl⟩) ?_
    refine g_block ?_
    refine g_seq ?_
    refine g_reg (noDefer_of rfl) ?_
    refine wl_f (f_move rfl) (wl_f (f_loadb 0 rfl Tryz.underlying33 rfl rfl rfl) ?_)
    refine wl_f (f_eql rfl rfl) ?_
    refine wl_end [(2, _), (3, _), (4, _), (5, _), (20, _)] ⟨rfl, rfl, rfl, rfl, rfl, trivial⟩ ?_
    refine g_ifd rfl (fun hc => ?_) (fun hc => ?_)
    · have hod : ov = d := by have hc : (ov : Int) = (d : Int) := hc; omega
      rw [if_pos hod] at hstep
      refine g_reg (noDefer_of rfl) ?_
      refine wl_f (f_loadb 1 rfl Tryz.underlying71 rfl rfl rfl) ?_
      refine wl_f (f_nilCheck rfl) (wl_f (f_fieldAddr 1 rfl Tryz.underlying106 rfl rfl (by kernel_rfl)) ?_)
      refine wl_f (f_loadb 4 rfl Tryz.underlying102 rfl rfl rfl) ?_
      refine wl_f (f_move rfl) (wl_e (e_call1 r [_, _, _, _, _] rfl Tryz.func158 (by kernel_rfl) (pk1 5 rfl) (fun w hh hs' => uxdelete_spec bX m T 0 M r k w hksm hX hs')) ?_)
      rintro _ _ w9 ⟨_, rfl, _, r', rfl, hX'⟩
      refine wl_end [] trivial ?_
      exact ⟨rfl, r', (pick_perm [1, 1, 1, 1, 1, 0] _ rfl).trans (by simp), by rw [hstep]; exact hX'⟩
    · have hod : ov ≠ d := fun e => hc (show (ov : Int) = (d : Int) by omega)
      rw [if_neg hod] at hstep
      refine g_draw [(0, true), (1, true), (2, true), (3, true), (4, true), (5, true), (6, true), (7, true), (8, false)] [_, _, _, _, _] [_] mixed (by kernel_rfl) rfl (by kernel_rfl) rfl (List.Perm.refl _) (fun w9 => ?_)
      refine wd_f rfl (f_loadb 1 rfl Tryz.underlying71 rfl rfl rfl) ?_
      refine wd_f rfl (f_nilCheck rfl) (wd_f rfl (f_fieldAddr 1 rfl Tryz.underlying106 rfl rfl (by kernel_rfl)) ?_)
      refine wd_f rfl (f_loadb 4 rfl Tryz.underlying102 rfl rfl rfl) ?_
      refine wd_f rfl (f_move rfl) (wd_f rfl (f_move rfl) (wd_f rfl (f_loadb 0 rfl Tryz.underlying33 rfl rfl rfl) ?_))
      refine wd_f rfl (f_eqv (v' := .int .u64 ((ov - d : Nat) : Int)) (f_subu rfl rfl (by omega)) (by congr 1; omega)) ?_
      refine wd_e rfl (e_call1 r [_, _, _, _, _] rfl Tryz.func155 (by kernel_rfl) (pk1 5 rfl) (fun w hh hs' => uxput_spec bX m T 0 M r k (ov - d) w hksm hX hs')) ?_
      rw [mput_over hkM2]
      rintro _ _ w10 ⟨_, rfl, _, r', rfl, hX'⟩
      refine ⟨_, List.perm_append_comm, ?_⟩
      refine wd_end [] trivial ?_
      exact ⟨rfl, r', List.Perm.refl _, by rw [hstep]; exact hX'⟩
  · rintro _ H1 ⟨M, r, q, hp, hX, rfl, rfl⟩
    refine ⟨_, hp, fun w' => ?_⟩
    exact ⟨_, [ftab t bX m (ded + d) total, r], _, fun a w2 ha hh => results_tmps Tryz.results157 rfl a ha _, .cons _ (.cons_cons _ (.cons_cons _ (List.nil_sublist _))), ⟨r, List.Perm.refl _, hX⟩, .inr ⟨D, rfl, by rw [List.append_nil]⟩⟩
end Go.Proofs.YtmagdjlcckgkpaaGreat

/- Tables by the method of Misra and Gries: making one, the numbers, nil tables. -/
namespace Go.Proofs.YtmagdjlcckgkpaaGreat
open Go.RowKit

/-- A table of tracked keys. -/
def FrR (t m : Nat) (M : UM) (ded total : Nat) (r : Res) : Prop := 1 ≤ m ∧ m ≤ 64 ∧ ∃ bX rX T, r = bun [ftab t bX m ded total, rX] ∧ TbR xU64 bX m T 0 M rX
theorem build_ftab (m : Int) (bX : Nat) (w : World) : (Instr.build 106 [(0, .int .i64 m), (1, .pointer (some ⟨bX, 0, .none⟩))].toArray).run Tryz.prog w =
    .ok (.agg [.int .i64 m, .pointer (some ⟨bX, 0, .none⟩), .int .u64 0, .int .u64 0].toArray) w := by kernel_rfl
theorem frnew_bad (n : Int) (w : World) (hn : n < 1 ∨ 64 < n) : Spec Tryz.prog 34 [.int .i64 n] w Nil fun r H => r = .tuple #[.pointer .none, .int .i64 1] ∧ H = [] := by
  refine enter (n := 25) Tryz.func34 rfl rfl [(0, _)] rfl ⟨rfl, trivial⟩ (Holds.start _ _) ?_
  refine w_seq (w_reg (wl_f (f_assign rfl) (wl_f (f_assign rfl) (wl_end [(0, _)] ⟨rfl, trivial⟩ ?_))))
  refine w_seq (w_seq (w_reg (wl_f (f_move rfl) (wl_f (f_lss rfl rfl) ?_))))
  refine wl_f (f_move rfl) ?_
  refine wl_or (j := 2) (c := decide (64 < n)) 2 [(0, _)] ⟨rfl, trivial⟩ rfl rfl rfl rfl rfl (fun hg1_5 => ?_) (fun w1_5 => ?_)
  · skip
    refine wl_gf rfl rfl (f_move rfl) ?_
    refine wl_gf rfl rfl (f_gtr rfl rfl) ?_
    exact wl_pend rfl rfl ⟨rfl, trivial⟩ (List.Sublist.refl _)
  refine wl_end [(0, _), (11, _)] ⟨rfl, rfl, trivial⟩ ?_
  refine w_ifb rfl (fun _ => ?_) (fun h => absurd (by simpa [Bool.or_eq_true] using hn) h)
  refine w_seq (w_reg (wl_f (f_assign rfl) (wl_f (f_assign rfl) (wl_end [(2, _), (3, _)] ⟨rfl, rfl, trivial⟩ ?_))))
  refine w_ret ?_
  refine ⟨_, _, fun a ha hh => results_tmps Tryz.results34 rfl a ha _, List.Sublist.refl _, ?_⟩
  exact ⟨rfl, rfl⟩
theorem fruntracked_nil (w : World) : Spec Tryz.prog 152 [.pointer .none] w Nil fun r H => r = .int .u64 0 ∧ H = [] := by
  refine enter (n := 9) Tryz.func152 rfl rfl [(0, _)] rfl ⟨rfl, trivial⟩ (Holds.start _ _) ?_
  refine w_seq (w_reg (wl_f (f_assign rfl) (wl_end [(0, _)] ⟨rfl, trivial⟩ ?_)))
  refine w_seq (w_seq (w_reg (wl_f (f_move rfl) (wl_f (f_eqlnil rfl rfl Tryz.underlying71) ?_))))
  refine wl_end [(0, _), (4, _)] ⟨rfl, rfl, trivial⟩ ?_
  refine w_ift rfl ?_
  refine w_seq (w_reg (wl_f (f_assign rfl) (wl_end [(2, _)] ⟨rfl, trivial⟩ ?_)))
  refine w_ret ?_
  refine ⟨_, _, fun a ha hh => results_tmps Tryz.results152 rfl a ha _, List.Sublist.refl _, ?_⟩
  exact ⟨rfl, rfl⟩
theorem fruntracked_spec (t m : Nat) (M : UM) (ded total : Nat) (r : Res) (w : World) (hr : FrR t m M ded total r) (hs : Holds w r.foot [r] w) :
    Spec Tryz.prog 152 [.pointer (some ⟨t, 0, .none⟩)] w r.foot fun v H => v = .int .u64 (ded : Int) ∧ H = [r] := by
  obtain ⟨hm1, hm2, bX, rX, T, rfl, hX⟩ := hr
  refine enter (n := 9) Tryz.func152 rfl rfl [(0, _)] rfl ⟨rfl, trivial⟩ hs ?_
  refine w_seq (w_reg (wl_f (f_assign rfl) (wl_end [(0, _)] ⟨rfl, trivial⟩ ?_)))
  refine w_seq (w_seq (w_reg (wl_f (f_move rfl) (wl_f (f_eqlnil rfl rfl Tryz.underlying71) ?_))))
  refine wl_end [(0, _), (4, _)] ⟨rfl, rfl, trivial⟩ ?_
  refine w_iff rfl ?_
  refine w_skip ?_
  refine w_seq (w_reg (wl_f (f_move rfl) (wl_f (f_nilCheck rfl) (wl_f (f_fieldAddr 2 rfl Tryz.underlying106 rfl rfl (by kernel_rfl)) ?_))))
  refine wl_f (f_loadB 0 0 rfl rfl rfl Tryz.underlying33 rfl rfl) ?_
  refine wl_f (f_assign rfl) (wl_end [(2, _)] ⟨rfl, trivial⟩ ?_)
  refine w_ret ?_
  refine ⟨_, _, fun a ha hh => results_tmps Tryz.results152 rfl a ha _, List.Sublist.refl _, ?_⟩
  exact ⟨rfl, rfl⟩
theorem frtotal_nil (w : World) : Spec Tryz.prog 151 [.pointer .none] w Nil fun r H => r = .int .u64 0 ∧ H = [] := by
  refine enter (n := 9) Tryz.func151 rfl rfl [(0, _)] rfl ⟨rfl, trivial⟩ (Holds.start _ _) ?_
  refine w_seq (w_reg (wl_f (f_assign rfl) (wl_end [(0, _)] ⟨rfl, trivial⟩ ?_)))
  refine w_seq (w_seq (w_reg (wl_f (f_move rfl) (wl_f (f_eqlnil rfl rfl Tryz.underlying71) ?_))))
  refine wl_end [(0, _), (4, _)] ⟨rfl, rfl, trivial⟩ ?_
  refine w_ift rfl ?_
  refine w_seq (w_reg (wl_f (f_assign rfl) (wl_end [(2, _)] ⟨rfl, trivial⟩ ?_)))
  refine w_ret ?_
  refine ⟨_, _, fun a ha hh => results_tmps Tryz.results151 rfl a ha _, List.Sublist.refl _, ?_⟩
  exact ⟨rfl, rfl⟩
theorem frtotal_spec (t m : Nat) (M : UM) (ded total : Nat) (r : Res) (w : World) (hr : FrR t m M ded total r) (hs : Holds w r.foot [r] w) :
    Spec Tryz.prog 151 [.pointer (some ⟨t, 0, .none⟩)] w r.foot fun v H => v = .int .u64 (total : Int) ∧ H = [r] := by
  obtain ⟨hm1, hm2, bX, rX, T, rfl, hX⟩ := hr
  refine enter (n := 9) Tryz.func151 rfl rfl [(0, _)] rfl ⟨rfl, trivial⟩ hs ?_
  refine w_seq (w_reg (wl_f (f_assign rfl) (wl_end [(0, _)] ⟨rfl, trivial⟩ ?_)))
  refine w_seq (w_seq (w_reg (wl_f (f_move rfl) (wl_f (f_eqlnil rfl rfl Tryz.underlying71) ?_))))
  refine wl_end [(0, _), (4, _)] ⟨rfl, rfl, trivial⟩ ?_
  refine w_iff rfl ?_
  refine w_skip ?_
  refine w_seq (w_reg (wl_f (f_move rfl) (wl_f (f_nilCheck rfl) (wl_f (f_fieldAddr 3 rfl Tryz.underlying106 rfl rfl (by kernel_rfl)) ?_))))
  refine wl_f (f_loadB 0 0 rfl rfl rfl Tryz.underlying33 rfl rfl) ?_
  refine wl_f (f_assign rfl) (wl_end [(2, _)] ⟨rfl, trivial⟩ ?_)
  refine w_ret ?_
  refine ⟨_, _, fun a ha hh => results_tmps Tryz.results151 rfl a ha _, List.Sublist.refl _, ?_⟩
  exact ⟨rfl, rfl⟩
set_option maxHeartbeats 1000000 in
theorem frnew_ok (m : Nat) (w : World) (h1 : 1 ≤ m) (h2 : m ≤ 64) : Spec Tryz.prog 34 [.int .i64 m] w Nil fun r H => ∃ t r', r = .tuple #[.pointer (some ⟨t, 0, .none⟩), .int .i64 0] ∧ H = [r'] ∧ FrR t m [] 0 0 r' := by
  refine enter (n := 25) Tryz.func34 rfl rfl [(0, _)] rfl ⟨rfl, trivial⟩ (Holds.start _ _) ?_
  refine w_seq (w_reg (wl_f (f_assign rfl) (wl_f (f_assign rfl) (wl_end [(0, _)] ⟨rfl, trivial⟩ ?_))))
  refine w_seq (w_seq (w_reg (wl_f (f_move rfl) (wl_f (f_lss rfl rfl) ?_))))
  refine wl_f (f_move rfl) ?_
  refine wl_or (j := 2) (c := decide (64 < (m : Int))) 2 [(0, _)] ⟨rfl, trivial⟩ rfl rfl rfl rfl rfl (fun hg1_5 => ?_) (fun w1_5 => ?_)
  · skip
    refine wl_gf rfl rfl (f_move rfl) ?_
    refine wl_gf rfl rfl (f_gtr rfl rfl) ?_
    exact wl_pend rfl rfl ⟨rfl, trivial⟩ (List.Sublist.refl _)
  refine wl_end [(0, _), (11, _)] ⟨rfl, rfl, trivial⟩ ?_
  refine w_ifb rfl (fun h => absurd h (by simp; omega)) (fun _ => ?_)
  refine w_skip ?_
  refine w_seq (w_reg (wl_f (f_move rfl) (wl_e (e_make (l := 16) (cs := u64v (List.replicate 16 0)) rfl rfl t95 (by omega) (by omega) (made1 16).symm) ?_)))
  rintro _ _ w3_1 ⟨b3_1, rfl, rfl⟩
  refine wl_e (e_call0 rfl Tryz.func48 (by kernel_rfl) (fun w hh => uxnew_ok m (List.replicate 16 0) _ 0 w (by omega) (by omega) List.length_replicate (Rd.held0 hh (i := 0) rfl))) ?_
  rintro _ _ w2 ⟨_, rfl, bX, rX, rfl, rfl, hX⟩
  refine wl_f (f_move rfl) (wl_f (f_extract rfl rfl) ?_)
  refine wl_f (f_extract rfl rfl) ?_
  refine wl_f (f_assign rfl) (wl_f (f_assign rfl) (wl_end [(0, _), (4, _), (5, _)] ⟨rfl, rfl, rfl, trivial⟩ ?_))
  refine w_seq (w_seq (w_reg (wl_f (f_move rfl) (wl_f (f_neq rfl rfl) ?_))))
  refine wl_end [(0, _), (4, _), (5, _), (19, _)] ⟨rfl, rfl, rfl, rfl, trivial⟩ ?_
  refine w_ifb rfl (fun h => absurd h (by simp)) (fun _ => ?_)
  refine w_skip ?_
  refine w_seq (w_reg (wl_f (f_move rfl) (wl_f (f_move rfl) (wl_f (f_build rfl (fun w => build_ftab _ _ w)) ?_))))
  refine wl_e (e_box (cs := [_, _, _, _]) rfl rfl) ?_
  rintro _ _ w3 ⟨t, rfl, rfl⟩
  refine wl_f (f_assign rfl) (wl_f (f_assign rfl) (wl_end [(2, _), (3, _)] ⟨rfl, rfl, trivial⟩ ?_))
  refine w_pick [0, 0] rfl ?_
  refine w_bun (H := []) [_, _] ?_
  refine w_ret ?_
  refine ⟨_, _, fun a ha hh => results_tmps Tryz.results34 rfl a ha _, List.Sublist.refl _, ?_⟩
  exact ⟨t, _, rfl, rfl, h1, h2, bX, rX, _, rfl, hX⟩
theorem frlen_nil (w : World) : Spec Tryz.prog 148 [.pointer .none] w Nil fun r H => r = .int .i64 0 ∧ H = [] := by
  refine enter (n := 10) Tryz.func148 rfl rfl [(0, _)] rfl ⟨rfl, trivial⟩ (Holds.start _ _) ?_
  refine w_seq (w_reg (wl_f (f_assign rfl) (wl_end [(0, _)] ⟨rfl, trivial⟩ ?_)))
  refine w_seq (w_seq (w_reg (wl_f (f_move rfl) (wl_f (f_eqlnil rfl rfl Tryz.underlying71) ?_))))
  refine wl_end [(0, _), (4, _)] ⟨rfl, rfl, trivial⟩ ?_
  refine w_ift rfl ?_
  refine w_seq (w_reg (wl_f (f_assign rfl) (wl_end [(2, _)] ⟨rfl, trivial⟩ ?_)))
  refine w_ret ?_
  refine ⟨_, _, fun a ha hh => results_tmps Tryz.results148 rfl a ha _, List.Sublist.refl _, ?_⟩
  exact ⟨rfl, rfl⟩
theorem frlen_spec (t m : Nat) (M : UM) (ded total : Nat) (r : Res) (w : World) (hr : FrR t m M ded total r) (hs : Holds w r.foot [r] w) :
    Spec Tryz.prog 148 [.pointer (some ⟨t, 0, .none⟩)] w r.foot fun v H => v = .int .i64 (M.length : Int) ∧ H = [r] := by
  obtain ⟨hm1, hm2, bX, rX, T, rfl, hX⟩ := hr
  refine enter (n := 10) Tryz.func148 rfl rfl [(0, _)] rfl ⟨rfl, trivial⟩ hs ?_
  refine w_seq (w_reg (wl_f (f_assign rfl) (wl_end [(0, _)] ⟨rfl, trivial⟩ ?_)))
  refine w_seq (w_seq (w_reg (wl_f (f_move rfl) (wl_f (f_eqlnil rfl rfl Tryz.underlying71) ?_))))
  refine wl_end [(0, _), (4, _)] ⟨rfl, rfl, trivial⟩ ?_
  refine w_iff rfl ?_
  refine w_skip ?_
  refine w_seq (w_unb (H := []) [_, _] ?_)
  refine w_reg (wl_f (f_move rfl) (wl_f (f_nilCheck rfl) (wl_f (f_fieldAddr 1 rfl Tryz.underlying106 rfl rfl (by kernel_rfl)) ?_)))
  refine wl_f (f_loadb 0 rfl Tryz.underlying102 rfl rfl rfl) ?_
  refine wl_e (e_call1 rX [_] rfl Tryz.func154 (by kernel_rfl) (pk1 1 rfl) (fun w hh hs' => uxlen_spec bX m T 0 M rX w hX hs')) ?_
  rintro _ _ w3 ⟨_, rfl, rfl, rfl⟩
  refine wl_f (f_assign rfl) (wl_end [(2, _)] ⟨rfl, trivial⟩ ?_)
  refine w_pick [1, 0] rfl ?_
  refine w_bun (H := []) [_, _] ?_
  refine w_ret ?_
  refine ⟨_, _, fun a ha hh => results_tmps Tryz.results148 rfl a ha _, List.Sublist.refl _, ?_⟩
  exact ⟨rfl, rfl⟩
end Go.Proofs.YtmagdjlcckgkpaaGreat

/- Tables by the method of Misra and Gries: getting and taking. -/
namespace Go.Proofs.YtmagdjlcckgkpaaGreat
open Go.RowKit

def fget (M : UM) (ded : Nat) (k : ByteArray) : Value := match mget M k with
  | some o => .tuple [enV k o ded, .bool true].toArray
  | none => .tuple [enZ, .bool false].toArray
set_option maxHeartbeats 1000000 in
theorem frget_nil (k : ByteArray) (w : World) : Spec Tryz.prog 147 [.pointer .none, .string k] w Nil fun v H => v = .tuple [enZ, .bool false].toArray ∧ H = [] := by
  refine enter (n := 30) Tryz.func147 rfl rfl [(0, _), (1, _)] rfl ⟨rfl, rfl, trivial⟩ (Holds.start _ _) ?_
  refine w_seq (w_reg (wl_e (e_allocs [.string ByteArray.empty, .int .u64 0, .int .u64 0] (by kernel_rfl)) ?_))
  rintro _ _ w0_0 ⟨b0_0, rfl, rfl⟩
  refine wl_f (f_assign rfl) (wl_end [(0, _), (1, _), (4, _)] ⟨rfl, rfl, rfl, trivial⟩ ?_)
  refine w_seq (w_seq (w_reg (wl_f (f_move rfl) (wl_f (f_eqlnil rfl rfl Tryz.underlying71) ?_))))
  refine wl_end [(0, _), (1, _), (4, _), (9, _)] ⟨rfl, rfl, rfl, rfl, trivial⟩ ?_
  refine w_ift rfl ?_
  refine w_seq (w_reg (wl_f (f_build rfl build_entry0) ?_))
  refine wl_e0 (e_store0 (us := [_, _, _]) rfl rfl rfl (by kernel_rfl) (by simp [Value.oneCell']) rfl rfl) ?_
  rintro _ _ w2_1 rfl
  refine wl_f (f_assign rfl) (wl_end [(4, _), (5, _)] ⟨rfl, rfl, trivial⟩ ?_)
  refine w_ret ?_
  refine ⟨_, _, fun a ha hh => results_mix Tryz.results147 (rm_cell (cell_agg 0 rfl Tryz.underlying46 rfl (by kernel_rfl) rfl) (rm_tmp rfl rm_nil)) a ha _ hh, List.nil_sublist _, ?_⟩
  exact ⟨rfl, rfl⟩
set_option maxHeartbeats 2000000 in
theorem frget_spec (t m : Nat) (M : UM) (ded total : Nat) (k : ByteArray) (r : Res) (w : World) (hk : small k) (hr : FrR t m M ded total r) (hs : Holds w r.foot [r] w) :
    Spec Tryz.prog 147 [.pointer (some ⟨t, 0, .none⟩), .string k] w r.foot fun v H => v = fget M ded k ∧ H = [r] := by
  obtain ⟨hm1, hm2, bX, rX, T, rfl, hX⟩ := hr
  refine enter (n := 30) Tryz.func147 rfl rfl [(0, _), (1, _)] rfl ⟨rfl, rfl, trivial⟩ hs ?_
  refine w_seq (w_reg (wl_e (e_allocs [.string ByteArray.empty, .int .u64 0, .int .u64 0] (by kernel_rfl)) ?_))
  rintro _ _ w0_0 ⟨b0_0, rfl, rfl⟩
  refine wl_f (f_assign rfl) (wl_end [(0, _), (1, _), (4, _)] ⟨rfl, rfl, rfl, trivial⟩ ?_)
  refine w_seq (w_seq (w_reg (wl_f (f_move rfl) (wl_f (f_eqlnil rfl rfl Tryz.underlying71) ?_))))
  refine wl_end [(0, _), (1, _), (4, _), (9, _)] ⟨rfl, rfl, rfl, rfl, trivial⟩ ?_
  refine w_iff rfl ?_
  refine w_skip ?_
  refine w_seq (w_pick [1, 0] rfl ?_)
  refine w_unb [_, _] ?_
  refine w_reg (wl_f (f_move rfl) (wl_f (f_nilCheck rfl) (wl_f (f_fieldAddr 1 rfl Tryz.underlying106 rfl rfl (by kernel_rfl)) ?_)))
  refine wl_f (f_loadb 0 rfl Tryz.underlying102 rfl rfl rfl) ?_
  refine wl_f (f_move rfl) (wl_e (e_call1 rX [_, _] rfl Tryz.func153 (by kernel_rfl) (pk1 1 rfl) (fun w hh hs' => uxget_spec bX m T 0 M rX k w hk hX hs')) ?_)
  rintro _ _ w3 ⟨_, rfl, rfl, rfl⟩
  refine wl_pick [2, 1, 0] rfl ?_
  refine wl_f (f_move rfl) (wl_f (f_extract rfl rfl) ?_)
  refine wl_f (f_extract rfl rfl) ?_
  refine wl_f (f_assign rfl) (wl_f (f_assign rfl) (wl_end [(0, _), (1, _), (4, _), (6, _), (7, _)] ⟨rfl, rfl, rfl, rfl, rfl, trivial⟩ ?_))
  refine w_seq (w_seq (w_reg (wl_f (f_move rfl) (wl_f (f_not rfl rfl) ?_))))
  refine wl_end [(0, _), (1, _), (4, _), (6, _), (21, _)] ⟨rfl, rfl, rfl, rfl, rfl, trivial⟩ ?_
  refine w_ifb rfl (fun hc2 => ?_) (fun hc2 => ?_)
  · skip
    have hno : mget M k = none := by
      cases h : mget M k with
      | none => rfl
      | some o => rw [h] at hc2; cases hc2
    refine w_seq (w_reg (wl_f (f_build rfl build_entry0) ?_))
    refine wl_e0 (e_store0 (us := [_, _, _]) rfl rfl rfl (by kernel_rfl) (by simp [Value.oneCell']) rfl rfl) ?_
    rintro _ _ w5_1 rfl
    refine wl_f (f_assign rfl) (wl_end [(4, _), (5, _)] ⟨rfl, rfl, trivial⟩ ?_)
    refine w_pick [1, 1, 0] rfl ?_
    refine w_bun (H := [_]) [_, _] ?_
    refine w_pick [1, 0] rfl ?_
    refine w_ret ?_
    refine ⟨_, _, fun a ha hh => results_mix Tryz.results147 (rm_cell (cell_agg 0 rfl Tryz.underlying46 rfl (by kernel_rfl) rfl) (rm_tmp rfl rm_nil)) a ha _ hh, List.sublist_cons_self .., ?_⟩
    exact ⟨by rw [fget, hno]; rfl, rfl⟩
  · skip
    obtain ⟨o, ho⟩ : ∃ o, mget M k = some o := by
      cases h : mget M k with
      | none => rw [h] at hc2; exact absurd rfl hc2
      | some o => exact ⟨o, rfl⟩
    rw [ho]
    refine w_skip ?_
    refine w_seq (w_reg (wl_f (f_move rfl) (wl_f (f_move rfl) (wl_f (f_move rfl) (wl_f (f_nilCheck rfl) (wl_f (f_fieldAddr 2 rfl Tryz.underlying106 rfl rfl (by kernel_rfl)) ?_))))))
    refine wl_f (f_loadb 1 rfl Tryz.underlying33 rfl rfl rfl) ?_
    refine wl_f (f_build rfl (fun w => build_entry _ _ _ w)) ?_
    refine wl_e0 (e_store0 (us := [_, _, _]) rfl rfl rfl (by kernel_rfl) (by simp [Value.oneCell']) rfl rfl) ?_
    rintro _ _ w6_7 rfl
    refine wl_f (f_assign rfl) (wl_end [(4, _), (5, _)] ⟨rfl, rfl, trivial⟩ ?_)
    refine w_pick [1, 1, 0] rfl ?_
    refine w_bun (H := [_]) [_, _] ?_
    refine w_pick [1, 0] rfl ?_
    refine w_ret ?_
    refine ⟨_, _, fun a ha hh => results_mix Tryz.results147 (rm_cell (cell_agg 0 rfl Tryz.underlying46 rfl (by kernel_rfl) rfl) (rm_tmp rfl rm_nil)) a ha _ hh, List.sublist_cons_self .., ?_⟩
    exact ⟨by rw [fget, ho]; rfl, rfl⟩
end Go.Proofs.YtmagdjlcckgkpaaGreat

/- Tables by the method of Misra and Gries: taking. -/
namespace Go.Proofs.YtmagdjlcckgkpaaGreat
open Go.RowKit

theorem fget_form (M : UM) (ded : Nat) (k : ByteArray) : ∃ (k' : ByteArray) (o s : Nat), fget M ded k = .tuple [.agg #[.string k', .int .u64 (o : Int), .int .u64 (s : Int)], .bool (mget M k).isSome].toArray := by
  unfold fget
  cases mget M k with
  | none => exact ⟨ByteArray.empty, 0, 0, rfl⟩
  | some o => exact ⟨k, o, ded, rfl⟩
set_option maxHeartbeats 2000000 in
theorem frtake_spec (t m : Nat) (M : UM) (ded total : Nat) (k : ByteArray) (r : Res) (w : World) (hk : small k) (hr : FrR t m M ded total r) (hs : Holds w r.foot [r] w) :
    Spec Tryz.prog 150 [.pointer (some ⟨t, 0, .none⟩), .string k] w r.foot fun v H => v = fget M ded k ∧ ∃ r', H = [r'] ∧ FrR t m (mdel M k) ded total r' := by
  have hr0 := hr
  obtain ⟨k', o, s, hf⟩ := fget_form M ded k
  obtain ⟨hm1, hm2, bX, rX, T, rfl, hX⟩ := hr
  rw [hf]
  refine enter (n := 23) Tryz.func150 rfl rfl [(0, _), (1, _)] rfl ⟨rfl, rfl, trivial⟩ hs ?_
  refine w_seq (w_reg (wl_e (e_allocs [.string ByteArray.empty, .int .u64 0, .int .u64 0] (by kernel_rfl)) ?_))
  rintro _ _ w0_0 ⟨b0_0, rfl, rfl⟩
  refine wl_f (f_assign rfl) (wl_end [(0, _), (1, _), (4, _)] ⟨rfl, rfl, rfl, trivial⟩ ?_)
  refine w_seq (w_reg (wl_f (f_move rfl) (wl_f (f_move rfl) (wl_e (e_call1 _ [_] rfl Tryz.func147 (by kernel_rfl) (pk1 1 rfl) (fun w hh hs' => frget_spec t m M ded total k _ w hk hr0 hs')) ?_))))
  rintro _ _ w1 ⟨_, rfl, rfl, rfl⟩
  rw [hf]
  refine wl_f (f_move rfl) (wl_f (f_extract rfl rfl) ?_)
  refine wl_f (f_extract rfl rfl) ?_
  refine wl_e (e_allocs [.string ByteArray.empty, .int .u64 0, .int .u64 0] (by kernel_rfl)) ?_
  rintro _ _ w1_6 ⟨b1_6, rfl, rfl⟩
  refine wl_e0 (e_store0 (us := [_, _, _]) rfl rfl rfl (by kernel_rfl) (by simp [Value.oneCell']) rfl rfl) ?_
  rintro _ _ w1_7 rfl
  refine wl_f (f_assign rfl) (wl_end [(0, _), (1, _), (4, _), (6, _), (7, _)] ⟨rfl, rfl, rfl, rfl, rfl, trivial⟩ ?_)
  refine w_seq (w_seq (w_reg (wl_f (f_move rfl) (wl_end [(0, _), (1, _), (4, _), (6, _), (7, _), (14, _)] ⟨rfl, rfl, rfl, rfl, rfl, rfl, trivial⟩ ?_))))
  refine w_post (fun m' H w' => m' = [(4, .pointer (some ⟨b0_0, 0, .none⟩)), (6, .pointer (some ⟨b1_6, 0, .none⟩)), (7, .bool (mget M k).isSome)] ∧ ∃ r', H = [blk b1_6 [.string k', .int .u64 (o : Int), .int .u64 (s : Int)] 46, r', blk b0_0 [.string ByteArray.empty, .int .u64 0, .int .u64 0] 46] ∧ FrR t m (mdel M k) ded total r') ?_ ?_
  · skip
    refine w_ifb rfl (fun hc1 => ?_) (fun hc1 => ?_)
    · skip
      refine w_pick [1, 0, 0] rfl ?_
      refine w_unb [_, _] ?_
      refine w_reg (wl_f (f_move rfl) (wl_f (f_nilCheck rfl) (wl_f (f_fieldAddr 1 rfl Tryz.underlying106 rfl rfl (by kernel_rfl)) ?_)))
      refine wl_f (f_loadb 0 rfl Tryz.underlying102 rfl rfl rfl) ?_
      refine wl_f (f_move rfl) (wl_e (e_call1 rX [_, _, _] rfl Tryz.func158 (by kernel_rfl) (pk1 1 rfl) (fun w hh hs' => uxdelete_spec bX m T 0 M rX k w hk hX hs')) ?_)
      rintro _ _ w3 ⟨_, rfl, _, rX2, rfl, hX2⟩
      refine wl_pick [1, 0, 0, 0] rfl ?_
      refine wl_bun (H := [_, _]) [_, _] ?_
      refine wl_pick [1, 0, 0] rfl ?_
      refine wl_end [(4, _), (6, _), (7, _)] ⟨rfl, rfl, rfl, trivial⟩ ?_
      exact ⟨rfl, _, rfl, hm1, hm2, bX, rX2, T, rfl, hX2⟩
    · skip
      refine w_sub [(4, _), (6, _), (7, _)] ⟨rfl, rfl, rfl, trivial⟩ (w_skip ?_)
      have hno : mget M k = none := by
        cases h : mget M k with
        | none => rfl
        | some o => rw [h] at hc1; exact absurd rfl hc1
      exact ⟨rfl, _, rfl, by rw [mdel_none (fun hk => by have := mget_in hk; rw [hno] at this; cases this)]; exact hr0⟩
  · rintro _ _ w4 ⟨rfl, r', rfl, hr'⟩
    refine w_seq (w_reg (wl_f (f_loadsb (cs := [_, _, _]) 0 rfl Tryz.underlying46 rfl (by kernel_rfl) rfl rfl) ?_))
    refine wl_f (f_move rfl) (wl_e0 (e_store2 (us := [_, _, _]) rfl rfl rfl (by kernel_rfl) (by simp [Value.oneCell']) rfl rfl) ?_)
    rintro _ _ w4_2 rfl
    refine wl_f (f_assign rfl) (wl_end [(4, _), (5, _)] ⟨rfl, rfl, trivial⟩ ?_)
    refine w_pick [2, 0, 0] rfl ?_
    refine w_ret ?_
    refine ⟨_, _, fun a ha hh => results_mix Tryz.results150 (rm_cell (cell_agg 0 rfl Tryz.underlying46 rfl (by kernel_rfl) rfl) (rm_tmp rfl rm_nil)) a ha _ hh, (List.sublist_cons_self ..).trans (List.sublist_cons_self ..), ?_⟩
    exact ⟨rfl, r', rfl, hr'⟩
end Go.Proofs.YtmagdjlcckgkpaaGreat

/- Tables by the method of Misra and Gries: nil tables. -/
namespace Go.Proofs.YtmagdjlcckgkpaaGreat
open Go.RowKit

theorem fradd_nil (k : ByteArray) (v : Int) (w : World) : Spec Tryz.prog 145 [.pointer .none, .string k, .int .u64 v] w Nil fun r H => r = .int .i64 8 ∧ H = [] := by
  refine enter (n := 91) Tryz.func145 rfl rfl [(0, _), (1, _), (2, _)] rfl ⟨rfl, rfl, rfl, trivial⟩ (Holds.start _ _) ?_
  refine w_seq (w_reg (wl_f (f_assign rfl) (wl_end [(0, _), (1, _), (2, _)] ⟨rfl, rfl, rfl, trivial⟩ ?_)))
  refine w_seq (w_block ?_)
  refine w_seq (w_reg (wl_f (f_move rfl) (wl_f (f_eqlnil rfl rfl Tryz.underlying71) ?_)))
  refine wl_f (f_assign rfl) (wl_end [(12, _)] ⟨rfl, trivial⟩ ?_)
  refine w_ift rfl ?_
  refine w_seq (w_reg (wl_f (f_assign rfl) (wl_end [(6, _)] ⟨rfl, trivial⟩ ?_)))
  refine w_ret ?_
  exact ⟨_, _, fun a ha hh => results_tmps Tryz.results145 rfl a ha _, List.Sublist.refl _, rfl, rfl⟩
end Go.Proofs.YtmagdjlcckgkpaaGreat

/- Tables by the method of Misra and Gries: exchanging. -/
namespace Go.Proofs.YtmagdjlcckgkpaaGreat
open Go.RowKit

def FSwapG (M : UM) (ded : Nat) (k x : ByteArray) (xo xs : Nat) (v : Value) (M' : UM) : Prop :=
  (∃ e : Int, v = .tuple [enZ, .int .i64 e].toArray ∧ M' = M ∧ (mget M k = none ∧ e = 8 ∨ ∃ o, mget M k = some o ∧ (x = ByteArray.empty ∧ e = 3 ∨ x ≠ ByteArray.empty ∧
    ((mget M x).isSome = true ∧ e = 10 ∨ mget M x = none ∧ (xo = 0 ∨ o < xo ∨ ded < xs) ∧ e = 1)))) ∨
  (∃ o, mget M k = some o ∧ x ≠ ByteArray.empty ∧ mget M x = none ∧ ¬ (xo = 0 ∨ o < xo ∨ ded < xs) ∧ v = .tuple [enV k o ded, .int .i64 0].toArray ∧ M' = (x, xo) :: mdel M k)
theorem mdel_lt {α : Type} {M : List (ByteArray × α)} {k : ByteArray} (h : k ∈ keys M) : (mdel M k).length < M.length := by
  obtain ⟨v, hv⟩ := mem_keys.1 h
  exact List.length_filter_lt_length_iff_exists.2 ⟨_, hv, by simp⟩
theorem keys_none {α : Type} {M : List (ByteArray × α)} {k : ByteArray} (h : mget M k = none) : k ∉ keys M := fun hk => by have := mget_in hk; rw [h] at this; cases this

set_option maxHeartbeats 8000000 in
theorem frswap_spec (t m : Nat) (M : UM) (ded total : Nat) (k x : ByteArray) (xo xs : Nat) (r : Res) (w : World) (hk : small k) (hx : small x) (hr : FrR t m M ded total r) (hs : Holds w r.foot [r] w) :
    Spec Tryz.prog 149 [.pointer (some ⟨t, 0, .none⟩), .string k, .agg #[.string x, .int .u64 (xo : Int), .int .u64 (xs : Int)]] w r.foot fun v H => ∃ r' M', H = [r'] ∧ FrR t m M' ded total r' ∧ FSwapG M ded k x xo xs v M' := by
  have hr0 := hr
  obtain ⟨k', o, s, hf⟩ := fget_form M ded k
  obtain ⟨hm1, hm2, bX, rX, T, rfl, hX⟩ := hr
  refine enter (n := 73) Tryz.func149 rfl rfl [(0, _), (1, _), (2, _)] rfl ⟨rfl, rfl, rfl, trivial⟩ hs ?_
  refine w_seq (w_reg (wl_e (e_box (cs := [_, _, _]) rfl rfl) ?_))
  rintro _ _ w0_0 ⟨b0_0, rfl, rfl⟩
  refine wl_e (e_allocs [.string ByteArray.empty, .int .u64 0, .int .u64 0] (by kernel_rfl)) ?_
  rintro _ _ w0_1 ⟨b0_1, rfl, rfl⟩
  refine wl_f (f_assign rfl) (wl_end [(0, _), (1, _), (5, _), (6, _)] ⟨rfl, rfl, rfl, rfl, trivial⟩ ?_)
  refine w_seq (w_reg (wl_f (f_move rfl) (wl_f (f_move rfl) (wl_e (e_call1 _ [_, _] rfl Tryz.func147 (by kernel_rfl) (pk1 2 rfl) (fun w hh hs' => frget_spec t m M ded total k _ w hk hr0 hs')) ?_))))
  rintro _ _ w1 ⟨_, rfl, rfl, rfl⟩
  rw [hf]
  refine wl_f (f_move rfl) (wl_f (f_extract rfl rfl) ?_)
  refine wl_f (f_extract rfl rfl) ?_
  refine wl_e (e_allocs [.string ByteArray.empty, .int .u64 0, .int .u64 0] (by kernel_rfl)) ?_
  rintro _ _ w1_6 ⟨b1_6, rfl, rfl⟩
  refine wl_e0 (e_store0 (us := [_, _, _]) rfl rfl rfl (by kernel_rfl) (by simp [Value.oneCell']) rfl rfl) ?_
  rintro _ _ w1_7 rfl
  refine wl_f (f_assign rfl) (wl_end [(0, _), (1, _), (5, _), (6, _), (8, _), (9, _)] ⟨rfl, rfl, rfl, rfl, rfl, rfl, trivial⟩ ?_)
  refine w_seq (w_seq (w_reg (wl_f (f_move rfl) (wl_f (f_not rfl rfl) ?_))))
  refine wl_end [(0, _), (1, _), (5, _), (6, _), (8, _), (19, _)] ⟨rfl, rfl, rfl, rfl, rfl, rfl, trivial⟩ ?_
  refine w_ifb rfl (fun hc1 => ?_) (fun hc1 => ?_)
  · skip
    have hno : mget M k = none := by
      cases h : mget M k with
      | none => rfl
      | some o => rw [h] at hc1; cases hc1
    refine w_seq (w_reg (wl_f (f_build rfl build_entry0) ?_))
    refine wl_e0 (e_store2 (us := [_, _, _]) rfl rfl rfl (by kernel_rfl) (by simp [Value.oneCell']) rfl rfl) ?_
    rintro _ _ w3_1 rfl
    refine wl_f (f_assign rfl) (wl_end [(6, _), (7, _)] ⟨rfl, rfl, trivial⟩ ?_)
    refine w_pick [2, 0, 1, 0] rfl ?_
    refine w_ret ?_
    refine ⟨_, _, fun a ha hh => results_mix Tryz.results149 (rm_cell (cell_agg 0 rfl Tryz.underlying46 rfl (by kernel_rfl) rfl) (rm_tmp rfl rm_nil)) a ha _ hh, ((List.sublist_cons_self ..).trans (List.sublist_cons_self ..)).trans (List.sublist_cons_self ..), ?_⟩
    exact ⟨_, M, rfl, hr0, .inl ⟨8, rfl, rfl, .inl ⟨hno, rfl⟩⟩⟩
  · skip
    obtain ⟨ov, ho⟩ : ∃ o, mget M k = some o := by
      cases h : mget M k with
      | none => rw [h] at hc1; exact absurd rfl hc1
      | some o => exact ⟨o, rfl⟩
    have hf2 := hf
    rw [fget, ho] at hf2
    simp [enV] at hf2
    obtain ⟨rfl, hoo, hss⟩ := hf2
    have hoo : ov = o := by omega
    have hss : ded = s := by omega
    subst hoo
    subst hss
    refine w_skip ?_
    refine w_seq (w_seq (w_reg (wl_f (f_fieldAddr 0 rfl Tryz.underlying46 rfl rfl (by kernel_rfl)) ?_)))
    refine wl_f (f_loadb 3 rfl Tryz.underlying9 rfl rfl rfl) ?_
    refine wl_f (f_eqls rfl rfl) ?_
    refine wl_end [(0, _), (1, _), (5, _), (6, _), (8, _), (23, _)] ⟨rfl, rfl, rfl, rfl, rfl, rfl, trivial⟩ ?_
    refine w_ifd rfl (fun hc2 => ?_) (fun hc2 => ?_)
    · skip
      have hx0 : x = ByteArray.empty := hc2
      refine w_seq (w_reg (wl_f (f_build rfl build_entry0) ?_))
      refine wl_e0 (e_store2 (us := [_, _, _]) rfl rfl rfl (by kernel_rfl) (by simp [Value.oneCell']) rfl rfl) ?_
      rintro _ _ w5_1 rfl
      refine wl_f (f_assign rfl) (wl_end [(6, _), (7, _)] ⟨rfl, rfl, trivial⟩ ?_)
      refine w_pick [2, 0, 1, 0] rfl ?_
      refine w_ret ?_
      refine ⟨_, _, fun a ha hh => results_mix Tryz.results149 (rm_cell (cell_agg 0 rfl Tryz.underlying46 rfl (by kernel_rfl) rfl) (rm_tmp rfl rm_nil)) a ha _ hh, ((List.sublist_cons_self ..).trans (List.sublist_cons_self ..)).trans (List.sublist_cons_self ..), ?_⟩
      exact ⟨_, M, rfl, hr0, .inl ⟨3, rfl, rfl, .inr ⟨ov, ho, .inl ⟨hx0, rfl⟩⟩⟩⟩
    · skip
      have hx0 : x ≠ ByteArray.empty := hc2
      refine w_skip ?_
      refine w_seq (w_seq (w_pick [1, 0, 0, 0] rfl ?_))
      refine w_unb [_, _] ?_
      refine w_pick [0, 1, 1, 1, 0] rfl ?_
      refine w_draw [(0, true), (1, true), (2, true), (3, true), (4, true), (5, true), (6, false), (7, true), (8, true), (9, true), (10, true), (11, true)] ([_, _, _, _]) ([_]) mixed (by kernel_rfl) (by kernel_rfl) rfl (List.Perm.refl _) (fun w6_ => ?_)
      refine wd_f rfl (f_move rfl) (wd_f rfl (f_nilCheck rfl) (wd_f rfl (f_fieldAddr 1 rfl Tryz.underlying106 rfl rfl (by kernel_rfl)) ?_))
      refine wd_f rfl (f_loadb 0 rfl Tryz.underlying102 rfl rfl rfl) ?_
      refine wd_f rfl (f_fieldAddr 0 rfl Tryz.underlying46 rfl rfl (by kernel_rfl)) ?_
      refine wd_f rfl (f_loadb 3 rfl Tryz.underlying9 rfl rfl rfl) ?_
      refine wd_e rfl (e_call1 rX [_, _, _, _] rfl Tryz.func153 (by kernel_rfl) (pk1 4 rfl) (fun w hh hs' => uxget_spec bX m T 0 M rX x w hx hX hs')) ?_
      rintro _ _ w6 ⟨_, rfl, rfl, rfl⟩
      refine ⟨_, List.perm_append_comm, ?_⟩
      refine wd_f rfl (f_move rfl) (wd_f rfl (f_extract rfl rfl) ?_)
      refine wd_f rfl (f_extract rfl rfl) ?_
      refine wd_f rfl (f_assign rfl) (wd_f rfl (f_assign rfl) (wd_end [(0, _), (1, _), (5, _), (6, _), (8, _), (11, _)] ⟨rfl, rfl, rfl, rfl, rfl, rfl, trivial⟩ ?_))
      refine w_seq (w_reg (wl_f (f_move rfl) (wl_end [(0, _), (1, _), (5, _), (6, _), (8, _), (35, _)] ⟨rfl, rfl, rfl, rfl, rfl, rfl, trivial⟩ ?_)))
      refine w_ifb rfl (fun hc3 => ?_) (fun hc3 => ?_)
      · skip
        refine w_seq (w_reg (wl_f (f_build rfl build_entry0) ?_))
        refine wl_e0 (e_store2 (us := [_, _, _]) rfl rfl rfl (by kernel_rfl) (by simp [Value.oneCell']) rfl rfl) ?_
        rintro _ _ w8_1 rfl
        refine wl_f (f_assign rfl) (wl_end [(6, _), (7, _)] ⟨rfl, rfl, trivial⟩ ?_)
        refine w_pick [0, 3, 1, 0, 0] rfl ?_
        refine w_bun (H := [_, _, _]) [_, _] ?_
        refine w_pick [1, 1, 1, 0] rfl ?_
        refine w_ret ?_
        refine ⟨_, _, fun a ha hh => results_mix Tryz.results149 (rm_cell (cell_agg 0 rfl Tryz.underlying46 rfl (by kernel_rfl) rfl) (rm_tmp rfl rm_nil)) a ha _ hh, ((List.sublist_cons_self ..).trans (List.sublist_cons_self ..)).trans (List.sublist_cons_self ..), ?_⟩
        exact ⟨_, M, rfl, hr0, .inl ⟨10, rfl, rfl, .inr ⟨ov, ho, .inr ⟨hx0, .inl ⟨hc3, rfl⟩⟩⟩⟩⟩
      · skip
        have hno : mget M x = none := by
          cases h : mget M x with
          | none => rfl
          | some o => rw [h] at hc3; exact absurd rfl hc3
        refine w_skip ?_
        refine w_seq (w_seq ?_)
        refine w_post (fun m' H w' => m' = [(0, .pointer (some ⟨t, 0, .none⟩)), (1, .string k), (5, .pointer (some ⟨b0_0, 0, .none⟩)), (6, .pointer (some ⟨b0_1, 0, .none⟩)), (8, .pointer (some ⟨b1_6, 0, .none⟩)), (55, .bool (decide (xo = 0 ∨ ov < xo ∨ ded < xs)))] ∧
          H = [ftab t bX m ded total, blk b1_6 [.string k, .int .u64 (ov : Int), .int .u64 (ded : Int)] 46, blk b0_1 [.string ByteArray.empty, .int .u64 0, .int .u64 0] 46, blk b0_0 [.string x, .int .u64 (xo : Int), .int .u64 (xs : Int)] 46, rX]) ?_ ?_
        · by_cases hz : xo = 0
          · refine w_draw [(0, true), (1, true), (2, true), (3, true), (4, true), (5, true), (6, true), (7, true), (8, true), (9, true), (10, true), (11, true), (12, true), (13, true), (14, true), (15, true), (16, true), (17, true), (18, true)] (_) ([]) mixed (by kernel_rfl) (by kernel_rfl) rfl (perm_all _) (fun w9_ => ?_)
            refine wd_f rfl (f_fieldAddr 1 rfl Tryz.underlying46 rfl rfl (by kernel_rfl)) ?_
            refine wd_f rfl (f_loadb 3 rfl Tryz.underlying33 rfl rfl rfl) ?_
            refine wd_f rfl (f_eqv (v' := .bool true) (f_eql rfl rfl) (by rw [decide_eq_true (show (xo : Int) = 0 by omega)])) ?_
            refine wd_f rfl (f_move rfl) (wd_gs rfl rfl rfl ?_)
            refine wd_gs rfl rfl rfl ?_
            refine wd_gs rfl rfl rfl ?_
            refine wd_gs rfl rfl rfl ?_
            refine wd_gs rfl rfl rfl ?_
            refine wd_f rfl (f_pick rfl rfl rfl) ?_
            refine wd_f rfl (f_move rfl) (wd_gs rfl rfl rfl ?_)
            refine wd_gs rfl rfl rfl ?_
            refine wd_gs rfl rfl rfl ?_
            refine wd_gs rfl rfl rfl ?_
            refine wd_gs rfl rfl rfl ?_
            refine wd_gs rfl rfl rfl ?_
            refine wd_gs rfl rfl rfl ?_
            refine wd_f rfl (f_pick rfl rfl rfl) ?_
            refine wd_end [(0, _), (1, _), (5, _), (6, _), (8, _), (55, _)] ⟨rfl, rfl, rfl, rfl, rfl, rfl, trivial⟩ ?_
            exact ⟨by rw [decide_eq_true (show xo = 0 ∨ ov < xo ∨ ded < xs by omega)]; rfl, rfl⟩
          · by_cases hl : ov < xo
            · refine w_draw [(0, true), (1, true), (2, true), (3, true), (4, true), (5, true), (6, true), (7, true), (8, true), (9, true), (10, true), (11, true), (12, true), (13, true), (14, true), (15, true), (16, true), (17, true), (18, true)] (_) ([]) mixed (by kernel_rfl) (by kernel_rfl) rfl (perm_all _) (fun w9_ => ?_)
              refine wd_f rfl (f_fieldAddr 1 rfl Tryz.underlying46 rfl rfl (by kernel_rfl)) ?_
              refine wd_f rfl (f_loadb 3 rfl Tryz.underlying33 rfl rfl rfl) ?_
              refine wd_f rfl (f_eqv (v' := .bool false) (f_eql rfl rfl) (by rw [decide_eq_false (show ¬ (xo : Int) = 0 by omega)])) ?_
              refine wd_f rfl (f_move rfl) (wd_gf rfl rfl rfl (f_fieldAddr 1 rfl Tryz.underlying46 rfl rfl (by kernel_rfl)) ?_)
              refine wd_gf rfl rfl rfl (f_loadb 3 rfl Tryz.underlying33 rfl rfl rfl) ?_
              refine wd_gf rfl rfl rfl (f_fieldAddr 1 rfl Tryz.underlying46 rfl rfl (by kernel_rfl)) ?_
              refine wd_gf rfl rfl rfl (f_loadb 1 rfl Tryz.underlying33 rfl rfl rfl) ?_
              refine wd_gf rfl rfl rfl (f_eqv (v' := .bool true) (f_gtr rfl rfl) (by rw [decide_eq_true (show (ov : Int) < (xo : Int) by omega)])) ?_
              refine wd_f rfl (f_pick rfl rfl rfl) ?_
              refine wd_f rfl (f_move rfl) (wd_gs rfl rfl rfl ?_)
              refine wd_gs rfl rfl rfl ?_
              refine wd_gs rfl rfl rfl ?_
              refine wd_gs rfl rfl rfl ?_
              refine wd_gs rfl rfl rfl ?_
              refine wd_gs rfl rfl rfl ?_
              refine wd_gs rfl rfl rfl ?_
              refine wd_f rfl (f_pick rfl rfl rfl) ?_
              refine wd_end [(0, _), (1, _), (5, _), (6, _), (8, _), (55, _)] ⟨rfl, rfl, rfl, rfl, rfl, rfl, trivial⟩ ?_
              exact ⟨by rw [decide_eq_true (show xo = 0 ∨ ov < xo ∨ ded < xs by omega)]; rfl, rfl⟩
            · refine w_draw [(0, true), (1, true), (2, true), (3, true), (4, true), (5, true), (6, true), (7, true), (8, true), (9, true), (10, true), (11, true), (12, true), (13, true), (14, true), (15, true), (16, true), (17, true), (18, true)] (_) ([]) mixed (by kernel_rfl) (by kernel_rfl) rfl (perm_all _) (fun w9_ => ?_)
              refine wd_f rfl (f_fieldAddr 1 rfl Tryz.underlying46 rfl rfl (by kernel_rfl)) ?_
              refine wd_f rfl (f_loadb 3 rfl Tryz.underlying33 rfl rfl rfl) ?_
              refine wd_f rfl (f_eqv (v' := .bool false) (f_eql rfl rfl) (by rw [decide_eq_false (show ¬ (xo : Int) = 0 by omega)])) ?_
              refine wd_f rfl (f_move rfl) (wd_gf rfl rfl rfl (f_fieldAddr 1 rfl Tryz.underlying46 rfl rfl (by kernel_rfl)) ?_)
              refine wd_gf rfl rfl rfl (f_loadb 3 rfl Tryz.underlying33 rfl rfl rfl) ?_
              refine wd_gf rfl rfl rfl (f_fieldAddr 1 rfl Tryz.underlying46 rfl rfl (by kernel_rfl)) ?_
              refine wd_gf rfl rfl rfl (f_loadb 1 rfl Tryz.underlying33 rfl rfl rfl) ?_
              refine wd_gf rfl rfl rfl (f_eqv (v' := .bool false) (f_gtr rfl rfl) (by rw [decide_eq_false (show ¬ (ov : Int) < (xo : Int) by omega)])) ?_
              refine wd_f rfl (f_pick rfl rfl rfl) ?_
              refine wd_f rfl (f_move rfl) (wd_gf rfl rfl rfl (f_fieldAddr 2 rfl Tryz.underlying46 rfl rfl (by kernel_rfl)) ?_)
              refine wd_gf rfl rfl rfl (f_loadb 3 rfl Tryz.underlying33 rfl rfl rfl) ?_
              refine wd_gf rfl rfl rfl (f_move rfl) ?_
              refine wd_gf rfl rfl rfl (f_nilCheck rfl) ?_
              refine wd_gf rfl rfl rfl (f_fieldAddr 2 rfl Tryz.underlying106 rfl rfl (by kernel_rfl)) ?_
              refine wd_gf rfl rfl rfl (f_loadb 0 rfl Tryz.underlying33 rfl rfl rfl) ?_
              refine wd_gf rfl rfl rfl (f_eqv (v' := .bool (decide (xo = 0 ∨ ov < xo ∨ ded < xs))) (f_gtr rfl rfl) (congrArg Value.bool (decide_eq_decide.2 (by omega)))) ?_
              refine wd_f rfl (f_pick rfl rfl rfl) ?_
              refine wd_end [(0, _), (1, _), (5, _), (6, _), (8, _), (55, _)] ⟨rfl, rfl, rfl, rfl, rfl, rfl, trivial⟩ ?_
              exact ⟨rfl, rfl⟩
        rintro _ _ w9 ⟨rfl, rfl⟩
        refine w_ifd rfl (fun hc4 => ?_) (fun hc4 => ?_)
        · skip
          refine w_seq (w_reg (wl_f (f_build rfl build_entry0) ?_))
          refine wl_e0 (e_store2 (us := [_, _, _]) rfl rfl rfl (by kernel_rfl) (by simp [Value.oneCell']) rfl rfl) ?_
          rintro _ _ w10_1 rfl
          refine wl_f (f_assign rfl) (wl_end [(6, _), (7, _)] ⟨rfl, rfl, trivial⟩ ?_)
          refine w_pick [0, 3, 1, 0, 0] rfl ?_
          refine w_bun (H := [_, _, _]) [_, _] ?_
          refine w_pick [1, 1, 1, 0] rfl ?_
          refine w_ret ?_
          refine ⟨_, _, fun a ha hh => results_mix Tryz.results149 (rm_cell (cell_agg 0 rfl Tryz.underlying46 rfl (by kernel_rfl) rfl) (rm_tmp rfl rm_nil)) a ha _ hh, ((List.sublist_cons_self ..).trans (List.sublist_cons_self ..)).trans (List.sublist_cons_self ..), ?_⟩
          exact ⟨_, M, rfl, hr0, .inl ⟨1, rfl, rfl, .inr ⟨ov, ho, .inr ⟨hx0, .inr ⟨hno, hc4, rfl⟩⟩⟩⟩⟩
        · skip
          refine w_skip ?_
          refine w_seq (w_reg (wl_f (f_move rfl) (wl_f (f_nilCheck rfl) (wl_f (f_fieldAddr 1 rfl Tryz.underlying106 rfl rfl (by kernel_rfl)) ?_))))
          refine wl_f (f_loadb 0 rfl Tryz.underlying102 rfl rfl rfl) ?_
          refine wl_f (f_move rfl) (wl_e (e_call1 rX [_, _, _, _] rfl Tryz.func158 (by kernel_rfl) (pk1 4 rfl) (fun w hh hs' => uxdelete_spec bX m T 0 M rX k w hk hX hs')) ?_)
          rintro _ _ w11 ⟨_, rfl, _, rX2, rfl, hX2⟩
          refine wl_pick [1, 1, 1, 1, 0] rfl ?_
          have hput : mput m (mdel M k) x xo = (0, (x, xo) :: mdel M k) := by
            refine mput_new (fun hxk => ?_) (by have := mdel_lt (mget_key ho); have := hX.len; omega)
            obtain ⟨v, hv⟩ := mem_keys.1 hxk
            exact keys_none hno (mem_keys.2 ⟨v, (List.mem_filter.1 hv).1⟩)
          refine wl_end [(0, _), (5, _), (6, _), (8, _)] ⟨rfl, rfl, rfl, rfl, trivial⟩ ?_
          refine w_seq ?_
          refine w_draw [(0, true), (1, true), (2, true), (3, true), (4, true), (5, true), (6, true), (7, true), (8, false)] ([_, _, _, _]) ([_]) mixed (by kernel_rfl) (by kernel_rfl) rfl (List.Perm.refl _) (fun w12_ => ?_)
          refine wd_f rfl (f_move rfl) (wd_f rfl (f_nilCheck rfl) (wd_f rfl (f_fieldAddr 1 rfl Tryz.underlying106 rfl rfl (by kernel_rfl)) ?_))
          refine wd_f rfl (f_loadb 0 rfl Tryz.underlying102 rfl rfl rfl) ?_
          refine wd_f rfl (f_fieldAddr 0 rfl Tryz.underlying46 rfl rfl (by kernel_rfl)) ?_
          refine wd_f rfl (f_loadb 3 rfl Tryz.underlying9 rfl rfl rfl) ?_
          refine wd_f rfl (f_fieldAddr 1 rfl Tryz.underlying46 rfl rfl (by kernel_rfl)) ?_
          refine wd_f rfl (f_loadb 3 rfl Tryz.underlying33 rfl rfl rfl) ?_
          refine wd_e rfl (e_call1 rX2 [_, _, _, _] rfl Tryz.func155 (by kernel_rfl) (pk1 4 rfl) (fun w hh hs' => uxput_spec bX m T 0 (mdel M k) rX2 x xo w hx hX2 hs')) ?_
          rw [hput]
          rintro _ _ w12 ⟨_, rfl, _, rX3, rfl, hX3⟩
          refine ⟨_, List.perm_append_comm, ?_⟩
          refine wd_end [(6, _), (8, _)] ⟨rfl, rfl, trivial⟩ ?_
          refine w_seq (w_reg (wl_f (f_loadsb (cs := [_, _, _]) 1 rfl Tryz.underlying46 rfl (by kernel_rfl) rfl rfl) ?_))
          refine wl_e0 (e_store2 (us := [_, _, _]) rfl rfl rfl (by kernel_rfl) (by simp [Value.oneCell']) rfl rfl) ?_
          rintro _ _ w13_1 rfl
          refine wl_f (f_assign rfl) (wl_end [(6, _), (7, _)] ⟨rfl, rfl, trivial⟩ ?_)
          refine w_pick [0, 3, 1, 0, 0] rfl ?_
          refine w_bun (H := [_, _, _]) [_, _] ?_
          refine w_pick [1, 1, 1, 0] rfl ?_
          refine w_ret ?_
          refine ⟨_, _, fun a ha hh => results_mix Tryz.results149 (rm_cell (cell_agg 0 rfl Tryz.underlying46 rfl (by kernel_rfl) rfl) (rm_tmp rfl rm_nil)) a ha _ hh, ((List.sublist_cons_self ..).trans (List.sublist_cons_self ..)).trans (List.sublist_cons_self ..), ?_⟩
          exact ⟨_, (x, xo) :: mdel M k, rfl, ⟨hm1, hm2, bX, rX3, T, rfl, hX3⟩, .inr ⟨ov, ho, hx0, hno, hc4, rfl, rfl⟩⟩
end Go.Proofs.YtmagdjlcckgkpaaGreat

/- The proof kit, seventeenth part: what is walked without a fence holds in code that holds a range, ahead of it. -/
namespace Go.Proofs.YtmagdjlcckgkpaaGreat
open Go.RowKit
section
variable {P : Program} {n : Nat} {w0 : World} {F0 : Nat → Prop} {N R : CondG} {X : Nat → CondG} {m : Env} {H : List Res} {w : World}
theorem g_of_w {c : Code} (h : W P n w0 F0 c (N []) (R []) (fun i => X i []) m H w) : G P n w0 F0 .none c N R X [] m H w := fun a ha hh => by
  rw [bk_nil]
  refine (wpIn_wide (n := 0)).2 (wp_mono (h a ha hh) fun e a' w' hq => ?_)
  cases e with
  | normal => obtain ⟨m, H, h1, h2, h3⟩ := hq; exact ⟨[], a', m, H, (bk_nil a').symm, h1, h2, h3⟩
  | ret => obtain ⟨m, H, h1, h2, h3⟩ := hq; exact ⟨[], a', m, H, (bk_nil a').symm, h1, h2, h3⟩
  | exit id => obtain ⟨m, H, h1, h2, h3⟩ := hq; exact ⟨[], a', m, H, (bk_nil a').symm, h1, h2, h3⟩
  | goto l => exact hq
  | panic c => exact hq
  | outgrown => exact hq
end
end Go.Proofs.YtmagdjlcckgkpaaGreat
