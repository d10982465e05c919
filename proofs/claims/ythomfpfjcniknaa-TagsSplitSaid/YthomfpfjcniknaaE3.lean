/- The law TagsValid: the call returns true; the sanity check of the laws on tags. -/
import Derived.Test.YthomfpfjcniknaaD14
namespace Go.Proofs.Ythomfpfjcniknaa
open Go.RowKit

theorem tc_at {l : List Tg} {i : Nat} {t : Tg} (h : l[i]? = some t) : ((tcells l).drop (0 + i * 2)).take 2 = [.string t.1, .string t.2] := by
  obtain ⟨hlt, he⟩ := List.getElem?_eq_some_iff.1 h
  have := tc_get (l.take i) (l.drop (i + 1)) t (i := i) (by rw [List.length_take]; omega)
  rwa [← he, ← List.drop_eq_getElem_cons hlt, List.take_append_drop, he] at this
theorem lit_tag2 (a b c d : ByteArray) (w : World) : (Instr.buildSlice 22 2 [(0, .agg [.string a, .string b].toArray), (1, .agg [.string c, .string d].toArray)].toArray).run Try.prog w =
    .ok (.slice (some ⟨w.heap.size, 0, .none⟩) 2 2) (w.alloc (.cells [.string a, .string b, .string c, .string d].toArray 35)) := by kernel_rfl
theorem lit_tag4 (a b c d e f g h : ByteArray) (w : World) : (Instr.buildSlice 22 4 [(0, .agg [.string a, .string b].toArray), (1, .agg [.string c, .string d].toArray), (2, .agg [.string e, .string f].toArray), (3, .agg [.string g, .string h].toArray)].toArray).run Try.prog w =
    .ok (.slice (some ⟨w.heap.size, 0, .none⟩) 4 4) (w.alloc (.cells [.string a, .string b, .string c, .string d, .string e, .string f, .string g, .string h].toArray 35)) := by kernel_rfl
theorem build_tag1 (a : ByteArray) (w : World) : (Instr.build 35 [(0, .string a)].toArray).run Try.prog w = .ok (.agg [.string a, .string ⟨#[]⟩].toArray) w := by kernel_rfl

def tgH : Tg := (⟨#[104, 111, 115, 116]⟩, ⟨#[97]⟩)
def tgA : Tg := (⟨#[97, 112, 112]⟩, ⟨#[120, 49]⟩)
def tgN : Tg := (⟨#[97, 112, 112]⟩, ⟨#[]⟩)
theorem key1 : keyOut [tgH, tgA] = ([3, 97, 112, 112, 2, 120, 49, 4, 104, 111, 115, 116, 1, 97], 0) := by decide +kernel
theorem key2 : (keyOut [tgN, tgN]).2 = 5 := by decide +kernel

set_option maxHeartbeats 400000 in
theorem awake3_spec (w : World) : Spec Try.prog 30 [] w Nil fun r H => r = .bool true ∧ H = [] := by
  refine enter (n := 29) Try.func30 rfl rfl [] rfl trivial (Holds.start _ _) ?_
  refine w_seq ?_
  refine w_reg ?_
  refine wl_f (f_assign rfl) ?_
  refine wl_end [] trivial ?_
  refine w_seq ?_
  refine w_reg ?_
  refine wl_f (f_build rfl (fun w => build_tag _ _ w)) ?_
  refine wl_f (f_build rfl (fun w => build_tag _ _ w)) ?_
  refine wl_e (e_litrow (e := 35) (sz := 2) rfl (fun w => lit_tag2 _ _ _ _ w) rfl (by decide)) ?_
  rintro _ _ w1_2 ⟨b1_2, rfl, rfl⟩
  refine wl_e (e_call0 rfl Try.func34 (by kernel_rfl) (fun w hh => key_spec _ [tgH, tgA] w (Rd.held0 hh (i := 0) rfl) (by decide) (by decide))) ?_
  rintro _ _ w1 ⟨_, rfl, rfl, rfl⟩
  refine wl_f (f_move rfl) ?_
  refine wl_f (f_extract rfl rfl) ?_
  refine wl_f (f_extract rfl rfl) ?_
  refine wl_f (f_assign rfl) ?_
  refine wl_f (f_assign rfl) ?_
  refine wl_rm0 ?_
  refine wl_end [(1, _), (2, _)] ⟨rfl, rfl, trivial⟩ ?_
  refine w_seq ?_
  refine w_reg ?_
  refine wl_f (f_build rfl (fun w => build_tag1 _ w)) ?_
  refine wl_f (f_build rfl (fun w => build_tag1 _ w)) ?_
  refine wl_e (e_litrow (e := 35) (sz := 2) rfl (fun w => lit_tag2 _ _ _ _ w) rfl (by decide)) ?_
  rintro _ _ w2_2 ⟨b2_2, rfl, rfl⟩
  refine wl_e (e_call0 rfl Try.func34 (by kernel_rfl) (fun w hh => key_spec _ [tgN, tgN] w (Rd.held0 hh (i := 0) rfl) (by decide) (by decide))) ?_
  rintro _ _ w2 ⟨_, rfl, rfl, rfl⟩
  refine wl_f (f_move rfl) ?_
  refine wl_f (f_extract rfl rfl) ?_
  refine wl_f (f_extract rfl rfl) ?_
  refine wl_f (f_assign rfl) ?_
  refine wl_f (f_assign rfl) ?_
  refine wl_rm0 ?_
  refine wl_end [(1, _), (2, _), (4, _)] ⟨rfl, rfl, rfl, trivial⟩ ?_
  refine w_seq ?_
  refine w_reg ?_
  refine wl_f (f_move rfl) ?_
  refine wl_f (f_eql rfl rfl) ?_
  refine wl_f (f_move rfl) ?_
  refine wl_and (j := 2) (c := decide (str (keyOut [tgH, tgA]).1 = ⟨#[3, 97, 112, 112, 2, 120, 49, 4, 104, 111, 115, 116, 1, 97]⟩)) 2 [(4, _)] ⟨rfl, trivial⟩ rfl rfl rfl rfl rfl (fun hg3_5 => ?_) (fun w3_5 => ?_)
  · skip
    refine wl_gf rfl rfl (f_move rfl) ?_
    refine wl_gf rfl rfl (f_eqls rfl rfl) ?_
    exact wl_pend rfl rfl ⟨rfl, trivial⟩ (List.Sublist.refl _)
  refine wl_f (f_move rfl) ?_
  refine wl_and (j := 6) (c := decide ((keyOut [tgN, tgN]).2 = 5)) 2 [] trivial rfl rfl rfl rfl rfl (fun hg3_9 => ?_) (fun w3_9 => ?_)
  · skip
    refine wl_gf rfl rfl (f_move rfl) ?_
    refine wl_gf rfl rfl (f_eql rfl rfl) ?_
    exact wl_pend rfl rfl trivial (List.Sublist.refl _)
  refine wl_f (f_assign rfl) ?_
  refine wl_end [(0, _)] ⟨rfl, trivial⟩ ?_
  refine w_ret ?_
  refine ⟨_, _, fun a ha hh => results_tmps Try.results30 rfl a ha _, List.Sublist.refl _, ?_⟩
  exact ⟨by rw [key1, key2]; rfl, rfl⟩

def longs : ByteArray := ⟨#[97, 98, 99, 100, 101, 102, 103, 104, 105, 106, 107, 108, 109, 110, 111, 112, 113, 114, 115, 116, 117, 118, 119, 120, 121, 122, 48, 49, 50, 51, 52, 53, 54, 55, 56, 57]⟩
set_option maxHeartbeats 1000000 in
theorem tagsValid_spec (nm vl : ByteArray) (k : Nat) (w : World) (hn : nm.size ≤ 140737488355328) (hv : vl.size ≤ 140737488355328) (hk : k < 256) :
    Spec Try.prog 7 [.string nm, .string vl, .int .u8 k] w Nil fun r _ => r = .bool true := by
  refine enter (n := 45) Try.func7 rfl rfl [(0, _), (1, _), (2, _)] rfl ⟨rfl, rfl, rfl, trivial⟩ (Holds.start _ _) ?_
  refine w_seq ?_
  refine w_reg ?_
  refine wl_f (f_assign rfl) ?_
  refine wl_end [(0, _), (1, _), (2, _)] ⟨rfl, rfl, rfl, trivial⟩ ?_
  refine w_seq ?_
  refine w_reg ?_
  refine wl_f (f_move rfl) ?_
  refine wl_e (e_call0 rfl Try.func27 (by kernel_rfl) (fun w hh => short_spec nm w hn)) ?_
  rintro _ _ w1 ⟨_, rfl, nm', rfl, hn', rfl⟩
  refine wl_f (f_move rfl) ?_
  refine wl_e (e_call0 rfl Try.func27 (by kernel_rfl) (fun w hh => short_spec vl w hv)) ?_
  rintro _ _ w2 ⟨_, rfl, vl', rfl, hv', rfl⟩
  refine wl_f (f_assign rfl) ?_
  refine wl_f (f_assign rfl) ?_
  refine wl_end [(0, _), (1, _), (2, _)] ⟨rfl, rfl, rfl, trivial⟩ ?_
  refine w_seq ?_
  refine w_reg ?_
  refine wl_f (f_move rfl) ?_
  refine wl_f (f_convi rfl Try.underlying5 Try.underlying3 (by omega)) ?_
  refine wl_f (f_rem rfl rfl (by omega)) ?_
  refine wl_f (f_slices (l := 0) (u := k % 37) rfl Try.underlying9 rfl ⟨_, rfl⟩ (by omega) (show k % 37 ≤ 36 by omega)) ?_
  have hlg : (longs.extract 0 (k % 37)).size ≤ 36 := by rw [ByteArray.size_extract, show longs.size = 36 from rfl]; omega
  refine wl_f (f_assign rfl) ?_
  refine wl_end [(0, _), (1, _), (7, _)] ⟨rfl, rfl, rfl, trivial⟩ ?_
  refine w_seq ?_
  refine w_seq ?_
  refine w_reg ?_
  refine wl_f (f_move rfl) ?_
  refine wl_f (f_move rfl) ?_
  refine wl_f (f_build rfl (fun w => build_tag _ _ w)) ?_
  refine wl_f (f_move rfl) ?_
  refine wl_f (f_move rfl) ?_
  refine wl_f (f_build rfl (fun w => build_tag _ _ w)) ?_
  refine wl_f (f_move rfl) ?_
  refine wl_f (f_move rfl) ?_
  refine wl_f (f_adds rfl rfl (by omega)) ?_
  refine wl_f (f_build rfl (fun w => build_tag _ _ w)) ?_
  refine wl_f (f_move rfl) ?_
  refine wl_f (f_move rfl) ?_
  refine wl_f (f_adds rfl rfl (show (longs.extract 0 (k % 37)).size + nm'.size ≤ _ by omega)) ?_
  refine wl_f (f_build rfl (fun w => build_tag1 _ w)) ?_
  refine wl_e (e_litrow (e := 35) (sz := 2) rfl (fun w => lit_tag4 _ _ _ _ _ _ _ _ w) rfl (by decide)) ?_
  rintro _ _ w3_14 ⟨b3_14, rfl, rfl⟩
  refine wl_f (f_len rfl Try.underlying22) ?_
  refine wl_f (f_move rfl) ?_
  refine wl_end [(32, _), (33, _), (34, _)] ⟨rfl, rfl, rfl, trivial⟩ ?_
  refine w_block ?_
  have hT : ∃ T : List Tg, T.length = 4 ∧ (∀ t ∈ T, t.1.size ≤ 1000) ∧ tcells T = [.string nm', .string vl', .string (longs.extract 0 (k % 37)), .string vl', .string ⟨#[97]⟩, .string (vl' ++ vl'), .string (longs.extract 0 (k % 37) ++ nm'), .string ⟨#[]⟩] := by
    refine ⟨[(nm', vl'), (longs.extract 0 (k % 37), vl'), (⟨#[97]⟩, vl' ++ vl'), (longs.extract 0 (k % 37) ++ nm', ⟨#[]⟩)], rfl, ?_, rfl⟩
    simp only [List.mem_cons, List.not_mem_nil, or_false, forall_eq_or_imp, forall_eq, ByteArray.size_append]
    exact ⟨by omega, by omega, by decide, by omega⟩
  obtain ⟨T, hT4, hTs, hTc⟩ := hT
  refine w_loop (fun q m H w => ∃ i : Nat, m = [(32, .slice (some ⟨b3_14, 0, .none⟩) 4 4), (33, .int .i64 4), (34, .int .i64 i)] ∧
    H = [row (.slice (some ⟨b3_14, 0, .none⟩) 4 4) 35 2 4 (tcells T)] ∧ q + i = 4) 4 ⟨0, rfl, by rw [hTc]; rfl, rfl⟩ ?_
  rintro q _ _ w3 ⟨i, rfl, rfl, hq⟩
  refine w_seq ?_
  refine w_reg ?_
  refine wl_f (f_lss rfl rfl) ?_
  refine wl_end [(32, _), (33, _), (34, _), (35, _)] ⟨rfl, rfl, rfl, rfl, trivial⟩ ?_
  refine w_seq ?_
  refine w_ifd rfl (fun hc1 => ?_) (fun hc1 => ?_)
  · skip
    obtain ⟨t, ht⟩ : ∃ t, T[i]? = some t := ⟨T[i]'(by omega), List.getElem?_eq_getElem (by omega)⟩
    have hts := hTs t (List.mem_of_getElem? ht)
    refine w_skip ?_
    refine w_seq ?_
    refine w_block ?_
    refine w_seq ?_
    refine w_reg ?_
    refine wl_f (f_indexAddr 2 rfl rfl Try.underlying22 (by kernel_rfl) rfl (by omega)) ?_
    refine wl_f (f_loadsr (cs := [.string t.1, .string t.2]) 0 rfl Try.underlying35 rfl (by kernel_rfl) rfl (tc_at ht)) ?_
    refine wl_e (e_allocs [.string ByteArray.empty, .string ByteArray.empty] (by kernel_rfl)) ?_
    rintro _ _ w5_2 ⟨b5_2, rfl, rfl⟩
    (first | refine wl_e0 (e_store0 (us := [_, _]) rfl rfl rfl (by kernel_rfl) (by simp [Value.oneCell']) rfl rfl) ?_ | refine wl_e0 (e_store1 (us := [_, _]) rfl rfl rfl (by kernel_rfl) (by simp [Value.oneCell']) rfl rfl) ?_ | refine wl_e0 (e_store2 (us := [_, _]) rfl rfl rfl (by kernel_rfl) (by simp [Value.oneCell']) rfl rfl) ?_ | refine wl_e0 (e_store3 (us := [_, _]) rfl rfl rfl (by kernel_rfl) (by simp [Value.oneCell']) rfl rfl) ?_)
    rintro _ _ w5_3 rfl
    refine wl_end [(9, _), (32, _), (33, _), (34, _)] ⟨rfl, rfl, rfl, rfl, trivial⟩ ?_
    refine w_seq ?_
    refine w_draw [(0, true), (2, true), (1, false), (3, false), (4, true)] (_) ([]) mixed (by kernel_rfl) (by kernel_rfl) rfl (perm_all _) (fun w6_ => ?_)
    (first | refine wd_f rfl (f_loadsb (cs := [_, _]) 0 rfl Try.underlying35 rfl (by kernel_rfl) rfl rfl) ?_ | refine wd_f rfl (f_loadsb (cs := [_, _]) 1 rfl Try.underlying35 rfl (by kernel_rfl) rfl rfl) ?_ | refine wd_f rfl (f_loadsb (cs := [_, _]) 2 rfl Try.underlying35 rfl (by kernel_rfl) rfl rfl) ?_ | refine wd_f rfl (f_loadsb (cs := [_, _]) 3 rfl Try.underlying35 rfl (by kernel_rfl) rfl rfl) ?_ | refine wd_f rfl (f_loadsb (cs := [_, _]) 4 rfl Try.underlying35 rfl (by kernel_rfl) rfl rfl) ?_ | refine wd_f rfl (f_loadsb (cs := [_, _]) 5 rfl Try.underlying35 rfl (by kernel_rfl) rfl rfl) ?_ | refine wd_f rfl (f_loadsb (cs := [_, _]) 6 rfl Try.underlying35 rfl (by kernel_rfl) rfl rfl) ?_)
    (first | refine wd_f rfl (f_loadsb (cs := [_, _]) 0 rfl Try.underlying35 rfl (by kernel_rfl) rfl rfl) ?_ | refine wd_f rfl (f_loadsb (cs := [_, _]) 1 rfl Try.underlying35 rfl (by kernel_rfl) rfl rfl) ?_ | refine wd_f rfl (f_loadsb (cs := [_, _]) 2 rfl Try.underlying35 rfl (by kernel_rfl) rfl rfl) ?_ | refine wd_f rfl (f_loadsb (cs := [_, _]) 3 rfl Try.underlying35 rfl (by kernel_rfl) rfl rfl) ?_ | refine wd_f rfl (f_loadsb (cs := [_, _]) 4 rfl Try.underlying35 rfl (by kernel_rfl) rfl rfl) ?_ | refine wd_f rfl (f_loadsb (cs := [_, _]) 5 rfl Try.underlying35 rfl (by kernel_rfl) rfl rfl) ?_ | refine wd_f rfl (f_loadsb (cs := [_, _]) 6 rfl Try.underlying35 rfl (by kernel_rfl) rfl rfl) ?_)
    refine wd_e rfl (e_call0 rfl Try.func28 (by kernel_rfl) (fun w hh => valid_spec t w (by omega))) ?_
    rintro _ _ w4 ⟨_, rfl, rfl, rfl⟩
    refine ⟨_, List.Perm.refl _, ?_⟩
    refine wd_e rfl (e_call0 rfl Try.func29 (by kernel_rfl) (fun w hh => rvalid_spec t w (by omega))) ?_
    rintro _ _ w5 ⟨_, rfl, rfl, rfl⟩
    refine ⟨_, List.Perm.refl _, ?_⟩
    refine wd_f rfl (f_neq rfl rfl) ?_
    refine wd_end [(32, _), (33, _), (34, _), (42, _)] ⟨rfl, rfl, rfl, rfl, trivial⟩ ?_
    refine w_ifd rfl (fun h => absurd rfl h) (fun _ => w_rm0 ?_)
    refine w_skip ?_
    refine w_reg ?_
    refine wl_f (f_add rfl rfl (by omega)) ?_
    refine wl_f (f_move rfl) ?_
    refine wl_end [(32, _), (33, _), (34, _)] ⟨rfl, rfl, rfl, trivial⟩ ?_
    exact ⟨q - 1, by omega, i + 1, rfl, rfl, by omega⟩
  · skip
    refine w_exit0 ?_
    refine w_seq ?_
    refine w_reg ?_
    refine wl_e (e_call0 rfl Try.func30 (by kernel_rfl) (fun w hh => awake3_spec w)) ?_
    rintro _ _ w6 ⟨_, rfl, rfl, rfl⟩
    refine wl_f (f_assign rfl) ?_
    refine wl_end [(6, _)] ⟨rfl, trivial⟩ ?_
    refine w_ret ?_
    refine ⟨_, _, fun a ha hh => results_tmps Try.results7 rfl a ha _, List.Sublist.refl _, ?_⟩
    rfl
end Go.Proofs.Ythomfpfjcniknaa
