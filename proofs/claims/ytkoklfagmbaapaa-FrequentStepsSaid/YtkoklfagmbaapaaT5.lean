/- The reference's tables: sorting, all entries, sums. -/
import Derived.Test.YtkoklfagmbaapaaT4
import Derived.Test.YtkoklfagmbaapaaT2
import Derived.Test.YtkoklfagmbaapaaK10
namespace Go.Proofs.Ytkoklfagmbaapaa
open Go.RowKit

theorem eins_cells (out : List En) (a : Nat) (p : En) : [] ++ ((encs out).drop (0 * 3)).take ((a - 0) * 3) ++ [.string p.1, .int .u64 (p.2.1 : Int), .int .u64 (p.2.2 : Int)] ++ ((encs out).drop (a * 3)).take ((out.length - a) * 3) = encs (out.take a ++ p :: out.drop a) := by
  rw [encs_mid, encs_mid, List.drop_zero, Nat.sub_zero, List.take_of_length_le (i := out.length - a) (by rw [List.length_drop]; omega), encs_app, List.nil_append, List.append_assoc]
  rfl
theorem eks_get {l : List En} {i : Nat} {x : En} (h : l[i]? = some x) : (eks l)[i]? = some x.1 := by simp [eks, h]
theorem eks_mem {l : List En} {x : En} (h : x ∈ l) : x.1 ∈ eks l := List.mem_map_of_mem h
theorem srt_ins {out : List En} {a : Nat} {p : En} (hs : Srts (eks out)) (hp : p.1 ∉ eks out) (h1 : ∀ x ∈ out.take a, nlt x.1 p.1 = true) (h2 : ∀ x, out[a]? = some x → nlt x.1 p.1 = false) : Srts (eks (out.take a ++ p :: out.drop a)) := by
  have h3 : ∀ x ∈ out.drop a, nlt p.1 x.1 = true := by
    cases hd : out.drop a with
    | nil => simp
    | cons y B =>
      have hy : out[a]? = some y := by
        have := congrArg (·[0]?) hd
        simpa using this
      have hyp : nlt p.1 y.1 = true := by
        cases h : nlt p.1 y.1 with
        | true => rfl
        | false => exact absurd (by rw [nlt_total h (h2 y hy)]; exact eks_mem (List.mem_of_getElem? hy)) hp
      intro x hx
      rcases List.mem_cons.1 hx with rfl | hx
      · exact hyp
      · have h4 : Srts (eks (out.take a) ++ eks (y :: B)) := by rw [← hd, ← eks_app, List.take_append_drop]; exact hs
        have h5 := (List.pairwise_append.1 h4).2.1
        exact nlt_trans hyp ((List.pairwise_cons.1 h5).1 x.1 (eks_mem hx))
  have h4 : Srts (eks (out.take a) ++ eks (out.drop a)) := by rw [← eks_app, List.take_append_drop]; exact hs
  obtain ⟨h5, h6, h7⟩ := List.pairwise_append.1 h4
  rw [eks_app]
  refine List.pairwise_append.2 ⟨h5, List.pairwise_cons.2 ⟨fun y hy => ?_, h6⟩, fun x hx y hy => ?_⟩
  · obtain ⟨z, hz, rfl⟩ := List.mem_map.1 hy; exact h3 z hz
  · obtain ⟨z, hz, rfl⟩ := List.mem_map.1 hx
    rcases List.mem_cons.1 hy with rfl | hy
    · exact h1 z hz
    · exact h7 z.1 (eks_mem hz) y hy
set_option maxHeartbeats 4000000 in
theorem rsorted_spec (v : Value) (l : List En) (w : World) (h1 : Rd w Nil 3 v l.length (encs l)) (hl : l.length ≤ 64) (hnd : (eks l).Nodup) :
    Spec Try.prog 45 [v] w Nil fun u H => ∃ es : List En, es.Perm l ∧ Srts (eks es) ∧ H = [row u 36 3 es.length (encs es)] := by
  obtain ⟨A1, c1, rfl, -, hc1', g1⟩ := id h1
  refine enter (n := 43) Try.func45 rfl rfl [(0, _)] rfl ⟨rfl, trivial⟩ (Holds.start _ _) ?_
  refine w_seq ?_
  refine w_reg ?_
  refine wl_f (f_assign rfl) ?_
  refine wl_end [(0, _)] ⟨rfl, trivial⟩ ?_
  refine w_seq ?_
  refine w_reg ?_
  refine wl_f (f_assign rfl) ?_
  refine wl_end [(0, _), (3, _)] ⟨rfl, rfl, trivial⟩ ?_
  refine w_seq ?_
  refine w_seq ?_
  refine w_reg ?_
  refine wl_f (f_move rfl) ?_
  refine wl_f (f_len rfl Try.underlying40) ?_
  refine wl_f (f_move rfl) ?_
  refine wl_end [(3, _), (7, _), (8, _), (9, _)] ⟨rfl, rfl, rfl, rfl, trivial⟩ ?_
  refine w_block ?_
  refine w_nilrow 36 3 ?_
  refine w_loop (fun j m H w => ∃ (i : Nat) (out : List En) (O : Option Addr) (co : Nat), m = [(3, .slice O out.length co), (7, .slice A1 l.length c1), (8, .int .i64 l.length), (9, .int .i64 i)] ∧ H = [row (.slice O out.length co) 36 3 out.length (encs out)] ∧ j + i = l.length ∧ out.Perm (l.take i) ∧ Srts (eks out)) l.length
    ⟨0, [], .none, 0, rfl, rfl, rfl, List.Perm.refl _, List.Pairwise.nil⟩ ?_
  rintro j _ _ w1 ⟨i, out, O, co, rfl, rfl, hj, hp, hs⟩
  refine w_seq ?_
  refine w_reg ?_
  refine wl_f (f_lss rfl rfl) ?_
  refine wl_end [(3, _), (7, _), (8, _), (9, _), (10, _)] ⟨rfl, rfl, rfl, rfl, rfl, trivial⟩ ?_
  refine w_seq ?_
  refine w_ifd rfl (fun hc1 => ?_) (fun hc1 => ?_)
  · skip
    have hi : i < l.length := by omega
    obtain ⟨b1, o1, rfl, -, -, d1⟩ := g1.resolve_left (by omega)
    obtain ⟨p, hpi⟩ : ∃ p, l[i]? = some p := ⟨_, List.getElem?_eq_getElem hi⟩
    have hol : out.length = i := by rw [hp.length_eq, List.length_take]; omega
    have hpo : p.1 ∉ eks out := fun h => by
      have h2 : p.1 ∈ eks (l.take i) := (hp.map Prod.fst).mem_iff.1 h
      have h3 : (eks (l.take i) ++ eks (l.drop i)).Nodup := by rw [← eks_app, List.take_append_drop]; exact hnd
      have h4 : p.1 ∈ eks (l.drop i) := eks_mem (List.mem_of_getElem? (i := 0) (by rw [List.getElem?_drop]; exact hpi))
      exact (List.nodup_append.1 h3).2.2 _ h2 _ h4 rfl
    refine w_skip ?_
    refine w_seq ?_
    refine w_block ?_
    refine w_seq ?_
    refine w_reg ?_
    refine wl_f (f_indexAddr 3 (i := i) rfl rfl Try.underlying40 (by kernel_rfl) rfl hi) ?_
    refine wl_f (f_loadso (cs := ecell (some p)) rfl Try.underlying36 rfl (by kernel_rfl) (encs_at d1 hpi) id) ?_
    refine wl_e (e_allocs [.string ByteArray.empty, .int .u64 0, .int .u64 0] (by kernel_rfl)) ?_
    rintro _ _ w4_2 ⟨b4_2, rfl, rfl⟩
    (first | refine wl_e0 (e_store0 (us := [_, _, _]) rfl rfl rfl (by kernel_rfl) (by simp [Value.oneCell']) rfl rfl) ?_ | refine wl_e0 (e_store1 (us := [_, _, _]) rfl rfl rfl (by kernel_rfl) (by simp [Value.oneCell']) rfl rfl) ?_ | refine wl_e0 (e_store2 (us := [_, _, _]) rfl rfl rfl (by kernel_rfl) (by simp [Value.oneCell']) rfl rfl) ?_ | refine wl_e0 (e_store3 (us := [_, _, _]) rfl rfl rfl (by kernel_rfl) (by simp [Value.oneCell']) rfl rfl) ?_)
    rintro _ _ w4_3 rfl
    refine wl_end [(3, _), (5, _), (7, _), (8, _), (9, _)] ⟨rfl, rfl, rfl, rfl, rfl, trivial⟩ ?_
    refine w_seq ?_
    refine w_reg ?_
    refine wl_f (f_assign rfl) ?_
    refine wl_end [(3, _), (5, _), (6, _), (7, _), (8, _), (9, _)] ⟨rfl, rfl, rfl, rfl, rfl, rfl, trivial⟩ ?_
    refine w_seq ?_
    refine w_block ?_
    refine w_loop (fun jj m H w => ∃ a : Nat, m = [(3, .slice O out.length co), (5, .pointer (some ⟨b4_2, 0, .none⟩)), (6, .int .i64 a), (7, .slice (some ⟨b1, o1, .none⟩) l.length c1), (8, .int .i64 l.length), (9, .int .i64 i)] ∧ H = [blk b4_2 [.string p.1, .int .u64 (p.2.1 : Int), .int .u64 (p.2.2 : Int)] 36, row (.slice O out.length co) 36 3 out.length (encs out)] ∧ jj + a = out.length ∧ ∀ x ∈ out.take a, nlt x.1 p.1 = true) out.length ⟨0, rfl, rfl, rfl, by simp⟩ ?_
    rintro jj _ _ w2 ⟨a, rfl, rfl, hjj, hall⟩
    refine w_seq ?_
    refine w_seq ?_
    refine w_post (fun m H w' => ∃ c : Bool, m = [(3, .slice O out.length co), (5, .pointer (some ⟨b4_2, 0, .none⟩)), (6, .int .i64 a), (7, .slice (some ⟨b1, o1, .none⟩) l.length c1), (8, .int .i64 l.length), (9, .int .i64 i), (26, .bool c)] ∧ H = [blk b4_2 [.string p.1, .int .u64 (p.2.1 : Int), .int .u64 (p.2.2 : Int)] 36, row (.slice O out.length co) 36 3 out.length (encs out)] ∧ (c = true → ∃ x, out[a]? = some x ∧ nlt x.1 p.1 = true) ∧ (c = false → ∀ x, out[a]? = some x → nlt x.1 p.1 = false)) ?_ ?_
    · by_cases hG6 : (a : Int) < (out.length : Int)
      · skip
        have ha : a < out.length := by omega
        obtain ⟨x, hx⟩ : ∃ x, out[a]? = some x := ⟨_, List.getElem?_eq_getElem ha⟩
        refine w_with fun hh => ?_
        obtain ⟨g, cap, e⟩ := row_form hh (i := 1) rfl (by omega)
        injection e with e1 _ e3
        subst e1; subst e3
        clear hh
        refine w_draw [(0, true), (1, true), (2, true), (3, true), (4, true), (5, true), (6, true), (7, true), (8, true), (9, true), (10, true), (11, true), (12, true), (13, true)] (_) ([]) mixed (by kernel_rfl) (by kernel_rfl) rfl (perm_all _) (fun w6_ => ?_)
        refine wd_f rfl (f_move rfl) ?_
        refine wd_f rfl (f_move rfl) ?_
        refine wd_f rfl (f_len rfl Try.underlying40) ?_
        refine wd_f rfl (f_eqv (f_lss rfl rfl) (congrArg Value.bool (decide_eq_true hG6))) ?_
        refine wd_f rfl (f_move rfl) ?_
        refine wd_gf rfl rfl rfl (f_move rfl) ?_
        refine wd_gf rfl rfl rfl (f_move rfl) ?_
        refine wd_gf rfl rfl rfl (f_indexAddr 3 (i := a) rfl rfl Try.underlying40 (by kernel_rfl) rfl ha) ?_
        refine wd_gf rfl rfl rfl (f_fieldAddr 0 rfl Try.underlying36 rfl rfl (by kernel_rfl)) ?_
        refine wd_gf rfl rfl rfl (f_loadr (v := .string x.1) 1 rfl Try.underlying9 rfl rfl (ecells_j (o := some x) (by rw [List.getElem?_map, hx]; rfl) 0 rfl (by omega))) ?_
        refine wd_gf rfl rfl rfl (f_fieldAddr 0 rfl Try.underlying36 rfl rfl (by kernel_rfl)) ?_
        (first | refine wd_gf rfl rfl rfl (f_loadb 0 rfl Try.underlying9 rfl rfl rfl) ?_ | refine wd_gf rfl rfl rfl (f_loadb 1 rfl Try.underlying9 rfl rfl rfl) ?_ | refine wd_gf rfl rfl rfl (f_loadb 2 rfl Try.underlying9 rfl rfl rfl) ?_ | refine wd_gf rfl rfl rfl (f_loadb 3 rfl Try.underlying9 rfl rfl rfl) ?_ | refine wd_gf rfl rfl rfl (f_loadb 4 rfl Try.underlying9 rfl rfl rfl) ?_ | refine wd_gf rfl rfl rfl (f_loadb 5 rfl Try.underlying9 rfl rfl rfl) ?_ | refine wd_gf rfl rfl rfl (f_loadb 6 rfl Try.underlying9 rfl rfl rfl) ?_)
        refine wd_gf rfl rfl rfl (f_lsss rfl rfl) ?_
        refine wd_f rfl (f_pick rfl rfl rfl) ?_
        refine wd_end [(3, _), (5, _), (6, _), (7, _), (8, _), (9, _), (26, _)] ⟨rfl, rfl, rfl, rfl, rfl, rfl, rfl, trivial⟩ ?_
        refine ⟨nlt x.1 p.1, rfl, rfl, fun h => ⟨x, hx, h⟩, fun h y hy => ?_⟩
        rw [hx] at hy
        injection hy with hy
        subst hy
        exact h
      · skip
        refine w_draw [(0, true), (1, true), (2, true), (3, true), (4, true), (5, true), (6, true), (7, true), (8, true), (9, true), (10, true), (11, true), (12, true), (13, true)] (_) ([]) mixed (by kernel_rfl) (by kernel_rfl) rfl (perm_all _) (fun w6_ => ?_)
        refine wd_f rfl (f_move rfl) ?_
        refine wd_f rfl (f_move rfl) ?_
        refine wd_f rfl (f_len rfl Try.underlying40) ?_
        refine wd_f rfl (f_eqv (f_lss rfl rfl) (congrArg Value.bool (decide_eq_false hG6))) ?_
        refine wd_f rfl (f_move rfl) ?_
        refine wd_gs rfl rfl rfl ?_
        refine wd_gs rfl rfl rfl ?_
        refine wd_gs rfl rfl rfl ?_
        refine wd_gs rfl rfl rfl ?_
        refine wd_gs rfl rfl rfl ?_
        refine wd_gs rfl rfl rfl ?_
        refine wd_gs rfl rfl rfl ?_
        refine wd_gs rfl rfl rfl ?_
        refine wd_f rfl (f_pick rfl rfl rfl) ?_
        refine wd_end [(3, _), (5, _), (6, _), (7, _), (8, _), (9, _), (26, _)] ⟨rfl, rfl, rfl, rfl, rfl, rfl, rfl, trivial⟩ ?_
        refine ⟨false, rfl, rfl, fun h => (by cases h), fun _ x hx => absurd (List.getElem?_eq_some_iff.1 hx).1 (by omega)⟩
    rintro _ _ w5 ⟨is, rfl, rfl, h5, h6⟩
    refine w_ifb rfl (fun hc2 => ?_) (fun hc2 => ?_)
    · skip
      obtain ⟨x, hx, hlt⟩ := h5 hc2
      have ha : a < out.length := (List.getElem?_eq_some_iff.1 hx).1
      refine w_skip ?_
      refine w_block ?_
      refine w_reg ?_
      refine wl_f (f_move rfl) ?_
      refine wl_f (f_add rfl rfl (by omega)) ?_
      refine wl_f (f_assign rfl) ?_
      refine wl_end [(3, _), (5, _), (6, _), (7, _), (8, _), (9, _)] ⟨rfl, rfl, rfl, rfl, rfl, rfl, trivial⟩ ?_
      refine ⟨jj - 1, by omega, a + 1, rfl, rfl, by omega, fun y hy => ?_⟩
      rw [take_snoc' hx] at hy
      rcases List.mem_append.1 hy with h | h
      · exact hall y h
      · rw [List.mem_singleton] at h; subst h; exact hlt
    · skip
      have hle : a ≤ out.length := by omega
      have hsi := srt_ins hs hpo hall (h6 (by cases is with | true => exact absurd rfl hc2 | false => rfl))
      refine w_with fun hh => ?_
      have hco : out.length ≤ co := by
        obtain ⟨_, _, e, _, h, _⟩ := Rd.held0 hh (i := 1) rfl
        injection e with _ _ e
        subst e
        exact h
      clear hh
      refine w_exit0 ?_
      refine w_post (fun m H w' => ∃ (U : Option Addr) (cu : Nat), m = [(3, .slice U (out.length + 1) cu), (7, .slice (some ⟨b1, o1, .none⟩) l.length c1), (8, .int .i64 l.length), (9, .int .i64 i)] ∧ H = [row (.slice U (out.length + 1) cu) 36 3 (out.length + 1) (encs (out.take a ++ p :: out.drop a))]) ?_ ?_
      · skip
        refine w_drawx (.fl 1 (.fl 2 (.fl 3 (.fl 5 (.fl 8 (.fl 9 (.fl 10 (.two 0 (.two 4 (.ef 6 (.ef 7 (.ef 11 (.fl 12 .done)))) 6 (.ef 4 (.ef 7 (.ef 11 (.fl 12 .done))))) 6 (.ef 0 (.ef 4 (.ef 7 (.ef 11 (.fl 12 .done))))))))))))) ([(_, none), (_, none)]) ([]) mixed (by kernel_rfl) (by kernel_rfl) rfl rfl (List.Perm.refl _) (fun w8_ => ?_)
        refine wx_f rfl (f_move rfl) ?_
        refine wx_f rfl (f_move rfl) ?_
        refine wx_f rfl (f_sliceA 3 (l := 0) (u := a) rfl Try.underlying40 (by kernel_rfl) rfl ⟨_, rfl⟩ (by omega) (by omega)) ?_
        (first | refine wx_f rfl (f_loadsb (cs := [_, _, _]) 0 rfl Try.underlying36 rfl (by kernel_rfl) rfl rfl) ?_ | refine wx_f rfl (f_loadsb (cs := [_, _, _]) 1 rfl Try.underlying36 rfl (by kernel_rfl) rfl rfl) ?_ | refine wx_f rfl (f_loadsb (cs := [_, _, _]) 2 rfl Try.underlying36 rfl (by kernel_rfl) rfl rfl) ?_ | refine wx_f rfl (f_loadsb (cs := [_, _, _]) 3 rfl Try.underlying36 rfl (by kernel_rfl) rfl rfl) ?_ | refine wx_f rfl (f_loadsb (cs := [_, _, _]) 4 rfl Try.underlying36 rfl (by kernel_rfl) rfl rfl) ?_ | refine wx_f rfl (f_loadsb (cs := [_, _, _]) 5 rfl Try.underlying36 rfl (by kernel_rfl) rfl rfl) ?_ | refine wx_f rfl (f_loadsb (cs := [_, _, _]) 6 rfl Try.underlying36 rfl (by kernel_rfl) rfl rfl) ?_)
        refine wx_f rfl (f_move rfl) ?_
        refine wx_f rfl (f_move rfl) ?_
        refine wx_f rfl (f_sliceA 3 (l := a) (u := out.length) rfl Try.underlying40 (by kernel_rfl) ⟨_, rfl⟩ rfl (by omega) (by omega)) ?_
        refine wx_two ?_ ?_
        · skip
          refine ks_e rfl (e_lit0 t40) ?_
          rintro _ _ w8_0 ⟨b8_0, rfl, rfl⟩
          refine ⟨_, List.perm_middle.symm, ?_⟩
          refine wx_two ?_ ?_
          · skip
            refine ks_e rfl (e_appN 2 t40 rfl rfl rfl (fun w hh => (Rd.held0 hh (i := 1) rfl).cut (l := 0) (u := a) (by omega) (by omega)) (emid_one (encs_one _) _ _) (by omega) (by omega)) ?_
            rintro _ _ w8_4 ⟨⟨U1, a1, rfl⟩, rfl⟩
            refine ⟨_, List.Perm.refl _, ?_⟩
            refine wx_ef ?_
            refine ks_e rfl (e_lit1 (cs := [_, _, _]) t40 rfl rfl rfl (by omega)) ?_
            rintro _ _ w8_6 ⟨b8_6, rfl, rfl⟩
            refine ⟨_, List.perm_middle.symm, ?_⟩
            refine wx_ef ?_
            refine ks_e rfl (e_appN 3 t40 rfl rfl rfl (fun w hh => Rd.held0 hh (i := 2) rfl) (by simp [Value.oneCell']) (by omega) (by omega)) ?_
            rintro _ _ w8_7 ⟨⟨U2, a2, rfl⟩, rfl⟩
            refine ⟨_, List.Perm.refl _, ?_⟩
            refine wx_ef ?_
            refine ks_e rfl (e_appN 3 t40 rfl rfl rfl (fun w hh => (Rd.held0 hh (i := 1) rfl).cut (l := a) (u := out.length) (by omega) (by omega)) (emid_one (encs_one _) _ _) (by omega) (by omega)) ?_
            rintro _ _ w8_11 ⟨⟨U3, a3, rfl⟩, rfl⟩
            refine ⟨_, List.Perm.refl _, ?_⟩
            refine wx_f rfl (f_assign rfl) ?_
            refine wx_endp [(3, _), (7, _), (8, _), (9, _)] [3] ⟨rfl, rfl, rfl, rfl, trivial⟩ rfl ?_
            refine ⟨U3, a3, ?_, ?_⟩
            · rw [show 0 + (a - 0) + 1 + (out.length - a) = out.length + 1 by omega]
            · rw [show 0 + (a - 0) + 1 + (out.length - a) = out.length + 1 by omega, eins_cells]
          · skip
            refine ks_e rfl (e_lit1 (cs := [_, _, _]) t40 rfl rfl rfl (by omega)) ?_
            rintro _ _ w8_6 ⟨b8_6, rfl, rfl⟩
            refine ⟨_, List.perm_middle.symm, ?_⟩
            refine wx_ef ?_
            refine ks_e rfl (e_appN 3 t40 rfl rfl rfl (fun w hh => (Rd.held0 hh (i := 1) rfl).cut (l := 0) (u := a) (by omega) (by omega)) (emid_one (encs_one _) _ _) (by omega) (by omega)) ?_
            rintro _ _ w8_4 ⟨⟨U1, a1, rfl⟩, rfl⟩
            refine ⟨_, List.Perm.refl _, ?_⟩
            refine wx_ef ?_
            refine ks_e rfl (e_appN 3 t40 rfl rfl rfl (fun w hh => Rd.held0 hh (i := 2) rfl) (by simp [Value.oneCell']) (by omega) (by omega)) ?_
            rintro _ _ w8_7 ⟨⟨U2, a2, rfl⟩, rfl⟩
            refine ⟨_, List.Perm.refl _, ?_⟩
            refine wx_ef ?_
            refine ks_e rfl (e_appN 3 t40 rfl rfl rfl (fun w hh => (Rd.held0 hh (i := 1) rfl).cut (l := a) (u := out.length) (by omega) (by omega)) (emid_one (encs_one _) _ _) (by omega) (by omega)) ?_
            rintro _ _ w8_11 ⟨⟨U3, a3, rfl⟩, rfl⟩
            refine ⟨_, List.Perm.refl _, ?_⟩
            refine wx_f rfl (f_assign rfl) ?_
            refine wx_endp [(3, _), (7, _), (8, _), (9, _)] [3] ⟨rfl, rfl, rfl, rfl, trivial⟩ rfl ?_
            refine ⟨U3, a3, ?_, ?_⟩
            · rw [show 0 + (a - 0) + 1 + (out.length - a) = out.length + 1 by omega]
            · rw [show 0 + (a - 0) + 1 + (out.length - a) = out.length + 1 by omega, eins_cells]
        · skip
          refine ks_e rfl (e_lit1 (cs := [_, _, _]) t40 rfl rfl rfl (by omega)) ?_
          rintro _ _ w8_6 ⟨b8_6, rfl, rfl⟩
          refine ⟨_, List.perm_middle.symm, ?_⟩
          refine wx_ef ?_
          refine ks_e rfl (e_lit0 t40) ?_
          rintro _ _ w8_0 ⟨b8_0, rfl, rfl⟩
          refine ⟨_, List.perm_middle.symm, ?_⟩
          refine wx_ef ?_
          refine ks_e rfl (e_appN 2 t40 rfl rfl rfl (fun w hh => (Rd.held0 hh (i := 1) rfl).cut (l := 0) (u := a) (by omega) (by omega)) (emid_one (encs_one _) _ _) (by omega) (by omega)) ?_
          rintro _ _ w8_4 ⟨⟨U1, a1, rfl⟩, rfl⟩
          refine ⟨_, List.Perm.refl _, ?_⟩
          refine wx_ef ?_
          refine ks_e rfl (e_appN 2 t40 rfl rfl rfl (fun w hh => Rd.held0 hh (i := 3) rfl) (by simp [Value.oneCell']) (by omega) (by omega)) ?_
          rintro _ _ w8_7 ⟨⟨U2, a2, rfl⟩, rfl⟩
          refine ⟨_, List.Perm.refl _, ?_⟩
          refine wx_ef ?_
          refine ks_e rfl (e_appN 2 t40 rfl rfl rfl (fun w hh => (Rd.held0 hh (i := 1) rfl).cut (l := a) (u := out.length) (by omega) (by omega)) (emid_one (encs_one _) _ _) (by omega) (by omega)) ?_
          rintro _ _ w8_11 ⟨⟨U3, a3, rfl⟩, rfl⟩
          refine ⟨_, List.Perm.refl _, ?_⟩
          refine wx_f rfl (f_assign rfl) ?_
          refine wx_endp [(3, _), (7, _), (8, _), (9, _)] [2] ⟨rfl, rfl, rfl, rfl, trivial⟩ rfl ?_
          refine ⟨U3, a3, ?_, ?_⟩
          · rw [show 0 + (a - 0) + 1 + (out.length - a) = out.length + 1 by omega]
          · rw [show 0 + (a - 0) + 1 + (out.length - a) = out.length + 1 by omega, eins_cells]
      rintro _ _ w8_ ⟨U, cu, rfl, rfl⟩
      refine w_reg ?_
      refine wl_f (f_add rfl rfl (by omega)) ?_
      refine wl_f (f_move rfl) ?_
      refine wl_end [(3, _), (7, _), (8, _), (9, _)] ⟨rfl, rfl, rfl, rfl, trivial⟩ ?_
      refine ⟨j - 1, by omega, i + 1, out.take a ++ p :: out.drop a, U, cu, by rw [show (out.take a ++ p :: out.drop a).length = out.length + 1 by rw [List.length_append, List.length_cons, List.length_take, List.length_drop]; omega]; rfl, by rw [show (out.take a ++ p :: out.drop a).length = out.length + 1 by rw [List.length_append, List.length_cons, List.length_take, List.length_drop]; omega], by omega, ?_, hsi⟩
      rw [take_snoc' hpi]
      refine List.perm_middle.trans ?_
      rw [List.take_append_drop]
      exact (hp.cons p).trans (List.perm_append_singleton p _).symm
  · skip
    refine w_exit0 ?_
    refine w_seq ?_
    refine w_reg ?_
    refine wl_f (f_move rfl) ?_
    refine wl_f (f_assign rfl) ?_
    refine wl_end [(2, _)] ⟨rfl, trivial⟩ ?_
    refine w_ret ?_
    refine ⟨_, _, fun a ha hh => results_tmps Try.results45 rfl a ha _, List.Sublist.refl _, ?_⟩
    have hi : i = l.length := by omega
    subst hi
    rw [List.take_length] at hp
    exact ⟨out, hp, hs, rfl⟩
end Go.Proofs.Ytkoklfagmbaapaa
