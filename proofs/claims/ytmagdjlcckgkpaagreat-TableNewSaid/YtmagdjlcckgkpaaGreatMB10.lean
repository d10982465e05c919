/- Texts of this proof, part MB10: what the code does, step by step. They have no conditions. -/
import Derived.Test.YtmagdjlcckgkpaaGreatMB9
import Derived.Test.YtmagdjlcckgkpaaGreatMB7
import Derived.Test.YtmagdjlcckgkpaaGreatMB3
/- The reference's tables: sorting, all entries, sums. -/
namespace Go.Proofs.YtmagdjlcckgkpaaGreat
open Go.RowKit

theorem eins_cells (out : List En) (a : Nat) (p : En) : [] ++ ((encs out).drop (0 * 3)).take ((a - 0) * 3) ++ [.string p.1, .int .u64 (p.2.1 : Int), .int .u64 (p.2.2 : Int)] ++ ((encs out).drop (a * 3)).take ((out.length - a) * 3) = encs (out.take a ++ p :: out.drop a) := by
  rw [encs_mid, encs_mid, List.drop_zero, Nat.sub_zero, List.take_of_length_le (i := out.length - a) (by rw [List.length_drop]; omega), encs_app, List.nil_append, List.append_assoc]
  rfl
theorem eks_get {l : List En} {i : Nat} {x : En} (h : l[i]? = some x) : (eks l)[i]? = some x.1 := by simp [eks, h]
theorem eks_mem {l : List En} {x : En} (h : x ∈ l) : x.1 ∈ eks l := List.mem_map_of_mem h
theorem srt_ins {out : List En} {a : Nat} {p : En} (hs : Srts (eks out)) (hp : p.1 ∉ eks out) (h1 : ∀ x ∈ out.take a, nlt x.1 p.1 = true) (h2 : ∀ x, out[a]? = some x → nlt x.1 p.1 = false) : Srts (eks (out.take a ++ p :: out.drop a)) := by
  have h3 : ∀ x ∈ out.drop a, nlt p.1 x.1 = true := by
    cases hd : out.drop a with
    | nil => simp
    | cons y B =>
      have hy : out[a]? = some y := by
        have := congrArg (·[0]?) hd
        simpa using this
      have hyp : nlt p.1 y.1 = true := by
        cases h : nlt p.1 y.1 with
        | true => rfl
        | false => exact absurd (by rw [nlt_total h (h2 y hy)]; exact eks_mem (List.mem_of_getElem? hy)) hp
      intro x hx
      rcases List.mem_cons.1 hx with rfl | hx
      · exact hyp
      · have h4 : Srts (eks (out.take a) ++ eks (y :: B)) := by rw [← hd, ← eks_app, List.take_append_drop]; exact hs
        have h5 := (List.pairwise_append.1 h4).2.1
        exact nlt_trans hyp ((List.pairwise_cons.1 h5).1 x.1 (eks_mem hx))
  have h4 : Srts (eks (out.take a) ++ eks (out.drop a)) := by rw [← eks_app, List.take_append_drop]; exact hs
  obtain ⟨h5, h6, h7⟩ := List.pairwise_append.1 h4
  rw [eks_app]
  refine List.pairwise_append.2 ⟨h5, List.pairwise_cons.2 ⟨fun y hy => ?_, h6⟩, fun x hx y hy => ?_⟩
  · obtain ⟨z, hz, rfl⟩ := List.mem_map.1 hy; exact h3 z hz
  · obtain ⟨z, hz, rfl⟩ := List.mem_map.1 hx
    rcases List.mem_cons.1 hy with rfl | hy
    · exact h1 z hz
    · exact h7 z.1 (eks_mem hz) y hy
set_option maxHeartbeats 4000000 in
theorem rsorted_spec (v : Value) (l : List En) (w : World) (h1 : Rd w Nil 3 v l.length (encs l)) (hl : l.length ≤ 64) (hnd : (eks l).Nodup) :
    Spec Tryz.prog 45 [v] w Nil fun u H => ∃ es : List En, es.Perm l ∧ Srts (eks es) ∧ H = [row u 46 3 es.length (encs es)] := by
  obtain ⟨A1, c1, rfl, -, hc1', g1⟩ := id h1
  refine enter (n := 43) Tryz.func45 rfl rfl [(0, _)] rfl ⟨rfl, trivial⟩ (Holds.start _ _) ?_
  refine w_seq (w_reg (wl_f (f_assign rfl) (wl_end [(0, _)] ⟨rfl, trivial⟩ ?_)))
  refine w_seq (w_reg (wl_f (f_assign rfl) (wl_end [(0, _), (3, _)] ⟨rfl, rfl, trivial⟩ ?_)))
  refine w_seq (w_seq (w_reg (wl_f (f_move rfl) (wl_f (f_len rfl Tryz.underlying42) ?_))))
  refine wl_f (f_move rfl) (wl_end [(3, _), (7, _), (8, _), (9, _)] ⟨rfl, rfl, rfl, rfl, trivial⟩ ?_)
  refine w_block ?_
  refine w_nilrow 46 3 ?_
  refine w_loop (fun j m H w => ∃ (i : Nat) (out : List En) (O : Option Addr) (co : Nat), m = [(3, .slice O out.length co), (7, .slice A1 l.length c1), (8, .int .i64 l.length), (9, .int .i64 i)] ∧ H = [row (.slice O out.length co) 46 3 out.length (encs out)] ∧ j + i = l.length ∧ out.Perm (l.take i) ∧ Srts (eks out)) l.length
    ⟨0, [], .none, 0, rfl, rfl, rfl, List.Perm.refl _, List.Pairwise.nil⟩ ?_
  rintro j _ _ w1 ⟨i, out, O, co, rfl, rfl, hj, hp, hs⟩
  refine w_seq (w_reg (wl_f (f_lss rfl rfl) ?_))
  refine wl_end [(3, _), (7, _), (8, _), (9, _), (10, _)] ⟨rfl, rfl, rfl, rfl, rfl, trivial⟩ ?_
  refine w_seq ?_
  refine w_ifd rfl (fun hc1 => ?_) (fun hc1 => ?_)
  · skip
    have hi : i < l.length := by omega
    obtain ⟨b1, o1, rfl, -, -, d1⟩ := g1.resolve_left (by omega)
    obtain ⟨p, hpi⟩ : ∃ p, l[i]? = some p := ⟨_, List.getElem?_eq_getElem hi⟩
    have hol : out.length = i := by rw [hp.length_eq, List.length_take]; omega
    have hpo : p.1 ∉ eks out := fun h => by
      have h2 : p.1 ∈ eks (l.take i) := (hp.map Prod.fst).mem_iff.1 h
      have h3 : (eks (l.take i) ++ eks (l.drop i)).Nodup := by rw [← eks_app, List.take_append_drop]; exact hnd
      have h4 : p.1 ∈ eks (l.drop i) := eks_mem (List.mem_of_getElem? (i := 0) (by rw [List.getElem?_drop]; exact hpi))
      exact (List.nodup_append.1 h3).2.2 _ h2 _ h4 rfl
    refine w_skip ?_
    refine w_seq (w_block ?_)
    refine w_seq (w_reg (wl_f (f_indexAddr 3 (i := i) rfl rfl Tryz.underlying42 (by kernel_rfl) rfl hi) ?_))
    refine wl_f (f_loadso (cs := ecell (some p)) rfl Tryz.underlying46 rfl (by kernel_rfl) (encs_at d1 hpi) id) ?_
    refine wl_e (e_allocs [.string ByteArray.empty, .int .u64 0, .int .u64 0] (by kernel_rfl)) ?_
    rintro _ _ w4_2 ⟨b4_2, rfl, rfl⟩
    refine wl_e0 (e_store0 (us := [_, _, _]) rfl rfl rfl (by kernel_rfl) (by simp [Value.oneCell']) rfl rfl) ?_
    rintro _ _ w4_3 rfl
    refine wl_end [(3, _), (5, _), (7, _), (8, _), (9, _)] ⟨rfl, rfl, rfl, rfl, rfl, trivial⟩ ?_
    refine w_seq (w_reg (wl_f (f_assign rfl) (wl_end [(3, _), (5, _), (6, _), (7, _), (8, _), (9, _)] ⟨rfl, rfl, rfl, rfl, rfl, rfl, trivial⟩ ?_)))
    refine w_seq (w_block ?_)
    refine w_loop (fun jj m H w => ∃ a : Nat, m = [(3, .slice O out.length co), (5, .pointer (some ⟨b4_2, 0, .none⟩)), (6, .int .i64 a), (7, .slice (some ⟨b1, o1, .none⟩) l.length c1), (8, .int .i64 l.length), (9, .int .i64 i)] ∧ H = [blk b4_2 [.string p.1, .int .u64 (p.2.1 : Int), .int .u64 (p.2.2 : Int)] 46, row (.slice O out.length co) 46 3 out.length (encs out)] ∧ jj + a = out.length ∧ ∀ x ∈ out.take a, nlt x.1 p.1 = true) out.length ⟨0, rfl, rfl, rfl, by simp⟩ ?_
    rintro jj _ _ w2 ⟨a, rfl, rfl, hjj, hall⟩
    refine w_seq (w_seq ?_)
    refine w_post (fun m H w' => ∃ c : Bool, m = [(3, .slice O out.length co), (5, .pointer (some ⟨b4_2, 0, .none⟩)), (6, .int .i64 a), (7, .slice (some ⟨b1, o1, .none⟩) l.length c1), (8, .int .i64 l.length), (9, .int .i64 i), (26, .bool c)] ∧ H = [blk b4_2 [.string p.1, .int .u64 (p.2.1 : Int), .int .u64 (p.2.2 : Int)] 46, row (.slice O out.length co) 46 3 out.length (encs out)] ∧ (c = true → ∃ x, out[a]? = some x ∧ nlt x.1 p.1 = true) ∧ (c = false → ∀ x, out[a]? = some x → nlt x.1 p.1 = false)) ?_ ?_
    · by_cases hG6 : (a : Int) < (out.length : Int)
      · skip
        have ha : a < out.length := by omega
        obtain ⟨x, hx⟩ : ∃ x, out[a]? = some x := ⟨_, List.getElem?_eq_getElem ha⟩
        refine w_with fun hh => ?_
        obtain ⟨g, cap, e⟩ := row_form hh (i := 1) rfl (by omega)
        injection e with e1 _ e3
        subst e1; subst e3
        clear hh
        refine w_draw [(0, true), (1, true), (2, true), (3, true), (4, true), (5, true), (6, true), (7, true), (8, true), (9, true), (10, true), (11, true), (12, true), (13, true)] (_) ([]) mixed (by kernel_rfl) (by kernel_rfl) rfl (perm_all _) (fun w6_ => ?_)
        refine wd_f rfl (f_move rfl) (wd_f rfl (f_move rfl) (wd_f rfl (f_len rfl Tryz.underlying42) ?_))
        refine wd_f rfl (f_eqv (f_lss rfl rfl) (congrArg Value.bool (decide_eq_true hG6))) ?_
        refine wd_f rfl (f_move rfl) (wd_gf rfl rfl rfl (f_move rfl) ?_)
        refine wd_gf rfl rfl rfl (f_move rfl) ?_
        refine wd_gf rfl rfl rfl (f_indexAddr 3 (i := a) rfl rfl Tryz.underlying42 (by kernel_rfl) rfl ha) ?_
        refine wd_gf rfl rfl rfl (f_fieldAddr 0 rfl Tryz.underlying46 rfl rfl (by kernel_rfl)) ?_
        refine wd_gf rfl rfl rfl (f_loadr (v := .string x.1) 1 rfl Tryz.underlying9 rfl rfl (ecells_j (o := some x) (by rw [List.getElem?_map, hx]; rfl) 0 rfl (by omega))) ?_
        refine wd_gf rfl rfl rfl (f_fieldAddr 0 rfl Tryz.underlying46 rfl rfl (by kernel_rfl)) ?_
        refine wd_gf rfl rfl rfl (f_loadb 0 rfl Tryz.underlying9 rfl rfl rfl) ?_
        refine wd_gf rfl rfl rfl (f_lsss rfl rfl) ?_
        refine wd_f rfl (f_pick rfl rfl rfl) ?_
        refine wd_end [(3, _), (5, _), (6, _), (7, _), (8, _), (9, _), (26, _)] ⟨rfl, rfl, rfl, rfl, rfl, rfl, rfl, trivial⟩ ?_
        refine ⟨nlt x.1 p.1, rfl, rfl, fun h => ⟨x, hx, h⟩, fun h y hy => ?_⟩
        rw [hx] at hy
        injection hy with hy
        subst hy
        exact h
      · skip
        refine w_draw [(0, true), (1, true), (2, true), (3, true), (4, true), (5, true), (6, true), (7, true), (8, true), (9, true), (10, true), (11, true), (12, true), (13, true)] (_) ([]) mixed (by kernel_rfl) (by kernel_rfl) rfl (perm_all _) (fun w6_ => ?_)
        refine wd_f rfl (f_move rfl) (wd_f rfl (f_move rfl) (wd_f rfl (f_len rfl Tryz.underlying42) ?_))
        refine wd_f rfl (f_eqv (f_lss rfl rfl) (congrArg Value.bool (decide_eq_false hG6))) ?_
        refine wd_f rfl (f_move rfl) (wd_gs rfl rfl rfl ?_)
        refine wd_gs rfl rfl rfl ?_
        refine wd_gs rfl rfl rfl ?_
        refine wd_gs rfl rfl rfl ?_
        refine wd_gs rfl rfl rfl ?_
        refine wd_gs rfl rfl rfl ?_
        refine wd_gs rfl rfl rfl ?_
        refine wd_gs rfl rfl rfl ?_
        refine wd_f rfl (f_pick rfl rfl rfl) ?_
        refine wd_end [(3, _), (5, _), (6, _), (7, _), (8, _), (9, _), (26, _)] ⟨rfl, rfl, rfl, rfl, rfl, rfl, rfl, trivial⟩ ?_
        refine ⟨false, rfl, rfl, fun h => (by cases h), fun _ x hx => absurd (List.getElem?_eq_some_iff.1 hx).1 (by omega)⟩
    rintro _ _ w5 ⟨is, rfl, rfl, h5, h6⟩
    refine w_ifb rfl (fun hc2 => ?_) (fun hc2 => ?_)
    · skip
      obtain ⟨x, hx, hlt⟩ := h5 hc2
      have ha : a < out.length := (List.getElem?_eq_some_iff.1 hx).1
      refine w_skip ?_
      refine w_block ?_
      refine w_reg (wl_f (f_move rfl) (wl_f (f_add rfl rfl (by omega)) ?_))
      refine wl_f (f_assign rfl) (wl_end [(3, _), (5, _), (6, _), (7, _), (8, _), (9, _)] ⟨rfl, rfl, rfl, rfl, rfl, rfl, trivial⟩ ?_)
      refine ⟨jj - 1, by omega, a + 1, rfl, rfl, by omega, fun y hy => ?_⟩
      rw [take_snoc' hx] at hy
      rcases List.mem_append.1 hy with h | h
      · exact hall y h
      · rw [List.mem_singleton] at h; subst h; exact hlt
    · skip
      have hle : a ≤ out.length := by omega
      have hsi := srt_ins hs hpo hall (h6 (by cases is with | true => exact absurd rfl hc2 | false => rfl))
      refine w_with fun hh => ?_
      have hco : out.length ≤ co := by
        obtain ⟨_, _, e, _, h, _⟩ := Rd.held0 hh (i := 1) rfl
        injection e with _ _ e
        subst e
        exact h
      clear hh
      refine w_exit0 ?_
      refine w_post (fun m H w' => ∃ (U : Option Addr) (cu : Nat), m = [(3, .slice U (out.length + 1) cu), (7, .slice (some ⟨b1, o1, .none⟩) l.length c1), (8, .int .i64 l.length), (9, .int .i64 i)] ∧ H = [row (.slice U (out.length + 1) cu) 46 3 (out.length + 1) (encs (out.take a ++ p :: out.drop a))]) ?_ ?_
      · skip
        refine w_drawx (.fl 1 (.fl 2 (.fl 3 (.fl 5 (.fl 8 (.fl 9 (.fl 10 (.two 0 (.two 4 (.ef 6 (.ef 7 (.ef 11 (.fl 12 .done)))) 6 (.ef 4 (.ef 7 (.ef 11 (.fl 12 .done))))) 6 (.ef 0 (.ef 4 (.ef 7 (.ef 11 (.fl 12 .done))))))))))))) ([(_, none), (_, none)]) ([]) mixed (by kernel_rfl) (by kernel_rfl) rfl rfl (List.Perm.refl _) (fun w8_ => ?_)
        refine wx_f rfl (f_move rfl) (wx_f rfl (f_move rfl) (wx_f rfl (f_sliceA 3 (l := 0) (u := a) rfl Tryz.underlying42 (by kernel_rfl) rfl ⟨_, rfl⟩ (by omega) (by omega)) ?_))
        refine wx_f rfl (f_loadsb (cs := [_, _, _]) 0 rfl Tryz.underlying46 rfl (by kernel_rfl) rfl rfl) ?_
        refine wx_f rfl (f_move rfl) (wx_f rfl (f_move rfl) (wx_f rfl (f_sliceA 3 (l := a) (u := out.length) rfl Tryz.underlying42 (by kernel_rfl) ⟨_, rfl⟩ rfl (by omega) (by omega)) ?_))
        refine wx_two ?_ ?_
        · skip
          refine ks_e rfl (e_lit0 t42) ?_
          rintro _ _ w8_0 ⟨b8_0, rfl, rfl⟩
          refine ⟨_, List.perm_middle.symm, ?_⟩
          refine wx_two ?_ ?_
          · skip
            refine ks_e rfl (e_appN 2 t42 rfl rfl rfl (fun w hh => (Rd.held0 hh (i := 1) rfl).cut (l := 0) (u := a) (by omega) (by omega)) (emid_one (encs_one _) _ _) (by omega) (by omega)) ?_
            rintro _ _ w8_4 ⟨⟨U1, a1, rfl⟩, rfl⟩
            refine ⟨_, List.Perm.refl _, ?_⟩
            refine wx_ef ?_
            refine ks_e rfl (e_lit1 (cs := [_, _, _]) t42 rfl rfl rfl (by omega)) ?_
            rintro _ _ w8_6 ⟨b8_6, rfl, rfl⟩
            refine ⟨_, List.perm_middle.symm, ?_⟩
            refine wx_ef ?_
            refine ks_e rfl (e_appN 3 t42 rfl rfl rfl (fun w hh => Rd.held0 hh (i := 2) rfl) (by simp [Value.oneCell']) (by omega) (by omega)) ?_
            rintro _ _ w8_7 ⟨⟨U2, a2, rfl⟩, rfl⟩
            refine ⟨_, List.Perm.refl _, ?_⟩
            refine wx_ef ?_
            refine ks_e rfl (e_appN 3 t42 rfl rfl rfl (fun w hh => (Rd.held0 hh (i := 1) rfl).cut (l := a) (u := out.length) (by omega) (by omega)) (emid_one (encs_one _) _ _) (by omega) (by omega)) ?_
            rintro _ _ w8_11 ⟨⟨U3, a3, rfl⟩, rfl⟩
            refine ⟨_, List.Perm.refl _, ?_⟩
            refine wx_f rfl (f_assign rfl) (wx_endp [(3, _), (7, _), (8, _), (9, _)] [3] ⟨rfl, rfl, rfl, rfl, trivial⟩ rfl ?_)
            refine ⟨U3, a3, ?_, ?_⟩
            · rw [show 0 + (a - 0) + 1 + (out.length - a) = out.length + 1 by omega]
            · rw [show 0 + (a - 0) + 1 + (out.length - a) = out.length + 1 by omega, eins_cells]
          · skip
            refine ks_e rfl (e_lit1 (cs := [_, _, _]) t42 rfl rfl rfl (by omega)) ?_
            rintro _ _ w8_6 ⟨b8_6, rfl, rfl⟩
            refine ⟨_, List.perm_middle.symm, ?_⟩
            refine wx_ef ?_
            refine ks_e rfl (e_appN 3 t42 rfl rfl rfl (fun w hh => (Rd.held0 hh (i := 1) rfl).cut (l := 0) (u := a) (by omega) (by omega)) (emid_one (encs_one _) _ _) (by omega) (by omega)) ?_
            rintro _ _ w8_4 ⟨⟨U1, a1, rfl⟩, rfl⟩
            refine ⟨_, List.Perm.refl _, ?_⟩
            refine wx_ef ?_
            refine ks_e rfl (e_appN 3 t42 rfl rfl rfl (fun w hh => Rd.held0 hh (i := 2) rfl) (by simp [Value.oneCell']) (by omega) (by omega)) ?_
            rintro _ _ w8_7 ⟨⟨U2, a2, rfl⟩, rfl⟩
            refine ⟨_, List.Perm.refl _, ?_⟩
            refine wx_ef ?_
            refine ks_e rfl (e_appN 3 t42 rfl rfl rfl (fun w hh => (Rd.held0 hh (i := 1) rfl).cut (l := a) (u := out.length) (by omega) (by omega)) (emid_one (encs_one _) _ _) (by omega) (by omega)) ?_
            rintro _ _ w8_11 ⟨⟨U3, a3, rfl⟩, rfl⟩
            refine ⟨_, List.Perm.refl _, ?_⟩
            refine wx_f rfl (f_assign rfl) (wx_endp [(3, _), (7, _), (8, _), (9, _)] [3] ⟨rfl, rfl, rfl, rfl, trivial⟩ rfl ?_)
            refine ⟨U3, a3, ?_, ?_⟩
            · rw [show 0 + (a - 0) + 1 + (out.length - a) = out.length + 1 by omega]
            · rw [show 0 + (a - 0) + 1 + (out.length - a) = out.length + 1 by omega, eins_cells]
        · skip
          refine ks_e rfl (e_lit1 (cs := [_, _, _]) t42 rfl rfl rfl (by omega)) ?_
          rintro _ _ w8_6 ⟨b8_6, rfl, rfl⟩
          refine ⟨_, List.perm_middle.symm, ?_⟩
          refine wx_ef ?_
          refine ks_e rfl (e_lit0 t42) ?_
          rintro _ _ w8_0 ⟨b8_0, rfl, rfl⟩
          refine ⟨_, List.perm_middle.symm, ?_⟩
          refine wx_ef ?_
          refine ks_e rfl (e_appN 2 t42 rfl rfl rfl (fun w hh => (Rd.held0 hh (i := 1) rfl).cut (l := 0) (u := a) (by omega) (by omega)) (emid_one (encs_one _) _ _) (by omega) (by omega)) ?_
          rintro _ _ w8_4 ⟨⟨U1, a1, rfl⟩, rfl⟩
          refine ⟨_, List.Perm.refl _, ?_⟩
          refine wx_ef ?_
          refine ks_e rfl (e_appN 2 t42 rfl rfl rfl (fun w hh => Rd.held0 hh (i := 3) rfl) (by simp [Value.oneCell']) (by omega) (by omega)) ?_
          rintro _ _ w8_7 ⟨⟨U2, a2, rfl⟩, rfl⟩
          refine ⟨_, List.Perm.refl _, ?_⟩
          refine wx_ef ?_
          refine ks_e rfl (e_appN 2 t42 rfl rfl rfl (fun w hh => (Rd.held0 hh (i := 1) rfl).cut (l := a) (u := out.length) (by omega) (by omega)) (emid_one (encs_one _) _ _) (by omega) (by omega)) ?_
          rintro _ _ w8_11 ⟨⟨U3, a3, rfl⟩, rfl⟩
          refine ⟨_, List.Perm.refl _, ?_⟩
          refine wx_f rfl (f_assign rfl) (wx_endp [(3, _), (7, _), (8, _), (9, _)] [2] ⟨rfl, rfl, rfl, rfl, trivial⟩ rfl ?_)
          refine ⟨U3, a3, ?_, ?_⟩
          · rw [show 0 + (a - 0) + 1 + (out.length - a) = out.length + 1 by omega]
          · rw [show 0 + (a - 0) + 1 + (out.length - a) = out.length + 1 by omega, eins_cells]
      rintro _ _ w8_ ⟨U, cu, rfl, rfl⟩
      refine w_reg (wl_f (f_add rfl rfl (by omega)) ?_)
      refine wl_f (f_move rfl) (wl_end [(3, _), (7, _), (8, _), (9, _)] ⟨rfl, rfl, rfl, rfl, trivial⟩ ?_)
      refine ⟨j - 1, by omega, i + 1, out.take a ++ p :: out.drop a, U, cu, by rw [show (out.take a ++ p :: out.drop a).length = out.length + 1 by rw [List.length_append, List.length_cons, List.length_take, List.length_drop]; omega]; rfl, by rw [show (out.take a ++ p :: out.drop a).length = out.length + 1 by rw [List.length_append, List.length_cons, List.length_take, List.length_drop]; omega], by omega, ?_, hsi⟩
      rw [take_snoc' hpi]
      refine List.perm_middle.trans ?_
      rw [List.take_append_drop]
      exact (hp.cons p).trans (List.perm_append_singleton p _).symm
  · skip
    refine w_exit0 ?_
    refine w_seq (w_reg (wl_f (f_move rfl) (wl_f (f_assign rfl) (wl_end [(2, _)] ⟨rfl, trivial⟩ ?_))))
    refine w_ret ?_
    refine ⟨_, _, fun a ha hh => results_tmps Tryz.results45 rfl a ha _, List.Sublist.refl _, ?_⟩
    have hi : i = l.length := by omega
    subst hi
    rw [List.take_length] at hp
    exact ⟨out, hp, hs, rfl⟩
end Go.Proofs.YtmagdjlcckgkpaaGreat

/- The reference's tables: all entries, sums, making one. -/
namespace Go.Proofs.YtmagdjlcckgkpaaGreat
open Go.RowKit

theorem runtracked_spec (q mode n : Nat) (l : List En) (base sum : Nat) (r : Res) (w : World) (hr : RtR q mode n l base sum r) (hs : Holds w r.foot [r] w) :
    Spec Tryz.prog 31 [.pointer (some ⟨q, 0, .none⟩)] w r.foot fun v H => v = .int .u64 (base : Int) ∧ H = [r] := by
  obtain ⟨LV, rfl⟩ := hr
  refine enter (n := 7) Tryz.func31 rfl rfl [(0, _)] rfl ⟨rfl, trivial⟩ hs ?_
  refine w_seq (w_reg (wl_f (f_assign rfl) (wl_end [(0, _)] ⟨rfl, trivial⟩ ?_)))
  refine w_seq (w_reg (wl_f (f_move rfl) (wl_f (f_nilCheck rfl) (wl_f (f_fieldAddr 3 rfl Tryz.underlying65 rfl rfl (by kernel_rfl)) ?_))))
  refine wl_f (f_loadB 0 0 rfl rfl rfl Tryz.underlying33 rfl rfl) ?_
  refine wl_f (f_assign rfl) (wl_end [(2, _)] ⟨rfl, trivial⟩ ?_)
  refine w_ret ?_
  refine ⟨_, _, fun a ha hh => results_tmps Tryz.results31 rfl a ha _, List.Sublist.refl _, ?_⟩
  exact ⟨rfl, rfl⟩
theorem rtotal_spec (q mode n : Nat) (l : List En) (base sum : Nat) (r : Res) (w : World) (hr : RtR q mode n l base sum r) (hs : Holds w r.foot [r] w) :
    Spec Tryz.prog 32 [.pointer (some ⟨q, 0, .none⟩)] w r.foot fun v H => v = .int .u64 (sum : Int) ∧ H = [r] := by
  obtain ⟨LV, rfl⟩ := hr
  refine enter (n := 7) Tryz.func32 rfl rfl [(0, _)] rfl ⟨rfl, trivial⟩ hs ?_
  refine w_seq (w_reg (wl_f (f_assign rfl) (wl_end [(0, _)] ⟨rfl, trivial⟩ ?_)))
  refine w_seq (w_reg (wl_f (f_move rfl) (wl_f (f_nilCheck rfl) (wl_f (f_fieldAddr 4 rfl Tryz.underlying65 rfl rfl (by kernel_rfl)) ?_))))
  refine wl_f (f_loadB 0 0 rfl rfl rfl Tryz.underlying33 rfl rfl) ?_
  refine wl_f (f_assign rfl) (wl_end [(2, _)] ⟨rfl, trivial⟩ ?_)
  refine w_ret ?_
  refine ⟨_, _, fun a ha hh => results_tmps Tryz.results32 rfl a ha _, List.Sublist.refl _, ?_⟩
  exact ⟨rfl, rfl⟩
theorem loc_uniq {l : List En} (hn : (eks l).Nodup) {A B : List En} {k : ByteArray} {x y : Nat × Nat} (h : l = A ++ (k, x) :: B) (hm : (k, y) ∈ l) : x = y := by
  subst h
  have h1 : (k, x) ∈ A ++ (k, x) :: B := by simp
  rw [eks_app] at hn
  obtain ⟨_, h3, h4⟩ := List.nodup_append.1 hn
  rcases List.mem_append.1 hm with h | h
  · exact absurd rfl (h4 _ (eks_mem h) _ (by simp [eks]))
  · rcases List.mem_cons.1 h with h | h
    · injection h with _ h; exact h.symm
    · exact absurd (eks_mem h) (List.nodup_cons.1 h3).1
theorem RGet.here {mode : Nat} {l : List En} {base : Nat} {k k' : ByteArray} {o' s' : Nat} {is : Bool} (h : RGet mode l base k k' o' s' is) (hn : (eks l).Nodup) {o s : Nat} (hm : (k, o, s) ∈ l) :
    is = true ∧ k' = k ∧ o' = o ∧ s' = if mode = 2 then base else s := by
  rcases h with ⟨_, h, _⟩ | ⟨h1, A, s0, B, h2, _, h3, h4⟩
  · exact absurd (eks_mem hm) h
  · have := loc_uniq hn h2 hm
    injection this with e1 e2
    subst e1; subst e2
    exact ⟨h1, h3, rfl, h4⟩
def rent (mode base : Nat) (x : En) : En := (x.1, x.2.1, if mode = 2 then base else x.2.2)
theorem eks_rent (mode base : Nat) (l : List En) : eks (l.map (rent mode base)) = eks l := by rw [eks, List.map_map]; rfl
set_option maxHeartbeats 2000000 in
theorem rentries_spec (q mode n : Nat) (l : List En) (base sum : Nat) (r : Res) (w : World) (hl : l.length ≤ 64) (hnd : (eks l).Nodup) (hr : RtR q mode n l base sum r) (hs : Holds w r.foot [r] w) :
    Spec Tryz.prog 30 [.pointer (some ⟨q, 0, .none⟩)] w r.foot fun u H => ∃ es : List En, es.Perm (l.map (rent mode base)) ∧ Srts (eks es) ∧ H = [row u 46 3 es.length (encs es), r] := by
  have hr0 := hr
  obtain ⟨LV, rfl⟩ := hr
  refine enter (n := 31) Tryz.func30 rfl rfl [(0, _)] rfl ⟨rfl, trivial⟩ hs ?_
  refine w_with fun hh => ?_
  obtain ⟨L, cl, rfl⟩ := rowB_slice hh (i := 0) (j := 1) rfl rfl
  clear hh
  refine w_seq (w_reg (wl_f (f_assign rfl) (wl_end [(0, _)] ⟨rfl, trivial⟩ ?_)))
  refine w_seq (w_reg (wl_f (f_assign rfl) (wl_end [(0, _), (3, _)] ⟨rfl, rfl, trivial⟩ ?_)))
  refine w_seq (w_seq (w_reg (wl_f (f_move rfl) (wl_f (f_nilCheck rfl) (wl_f (f_fieldAddr 2 rfl Tryz.underlying65 rfl rfl (by kernel_rfl)) ?_)))))
  refine wl_f (f_loadB 0 0 rfl rfl rfl Tryz.underlying42 rfl rfl) ?_
  refine wl_f (f_len rfl Tryz.underlying42) ?_
  refine wl_f (f_move rfl) (wl_end [(0, _), (3, _), (11, _), (12, _), (13, _)] ⟨rfl, rfl, rfl, rfl, rfl, trivial⟩ ?_)
  refine w_block ?_
  refine w_nilrow 46 3 ?_
  refine w_loop (fun j m H w => ∃ (i : Nat) (O : Value), m = [(0, .pointer (some ⟨q, 0, .none⟩)), (3, O), (11, .slice L l.length cl), (12, .int .i64 l.length), (13, .int .i64 i)] ∧ H = [row O 46 3 ((l.take i).map (rent mode base)).length (encs ((l.take i).map (rent mode base))), bun (rts q mode n l (.slice L l.length cl) base sum)] ∧ j + i = l.length) l.length
    ⟨0, _, rfl, rfl, rfl⟩ ?_
  rintro j _ _ w1 ⟨i, O, rfl, rfl, hj⟩
  refine w_seq (w_reg (wl_f (f_lss rfl rfl) ?_))
  refine wl_end [(0, _), (3, _), (11, _), (12, _), (13, _), (14, _)] ⟨rfl, rfl, rfl, rfl, rfl, rfl, trivial⟩ ?_
  refine w_seq ?_
  refine w_ifd rfl (fun hc1 => ?_) (fun hc1 => ?_)
  · skip
    have hi : i < l.length := by omega
    obtain ⟨p, hpi⟩ : ∃ p, l[i]? = some p := ⟨_, List.getElem?_eq_getElem hi⟩
    have hpm : (p.1, p.2.1, p.2.2) ∈ l := List.mem_of_getElem? hpi
    have hml : ((l.take i).map (rent mode base)).length = i := by rw [List.length_map, List.length_take]; omega
    refine w_with fun hh => ?_
    obtain ⟨g, cap, e⟩ := rowB_form hh (i := 1) (j := 1) rfl rfl (by omega)
    injection e with e1 _ e3
    subst e1; subst e3
    clear hh
    refine w_skip ?_
    refine w_seq (w_block ?_)
    refine w_seq (w_reg (wl_f (f_indexAddr 3 (i := i) rfl rfl Tryz.underlying42 (by kernel_rfl) rfl hi) ?_))
    refine wl_f (f_loadsBr (cs := ecell (some p)) 1 1 rfl rfl rfl Tryz.underlying46 rfl (by kernel_rfl) (encs_get hpi)) ?_
    refine wl_e (e_allocs [.string ByteArray.empty, .int .u64 0, .int .u64 0] (by kernel_rfl)) ?_
    rintro _ _ w4_2 ⟨b4_2, rfl, rfl⟩
    refine wl_e0 (e_store0 (us := [_, _, _]) rfl rfl rfl (by kernel_rfl) (by simp [Value.oneCell']) rfl rfl) ?_
    rintro _ _ w4_3 rfl
    refine wl_end [(0, _), (3, _), (5, _), (11, _), (12, _), (13, _)] ⟨rfl, rfl, rfl, rfl, rfl, rfl, trivial⟩ ?_
    refine w_seq (w_reg (wl_f (f_move rfl) (wl_f (f_fieldAddr 0 rfl Tryz.underlying46 rfl rfl (by kernel_rfl)) ?_)))
    refine wl_f (f_loadb 0 rfl Tryz.underlying9 rfl rfl rfl) ?_
    refine wl_e (e_call1 _ [_, _] rfl Tryz.func38 (by kernel_rfl) (pk1 2 rfl) (fun w hh hs' => rget_spec q mode n l base sum _ p.1 w (by omega) hr0 hs')) ?_
    rintro _ _ w2 ⟨_, rfl, rfl, k', o', s', is, rfl, hG⟩
    obtain ⟨rfl, rfl, rfl, rfl⟩ := hG.here hnd hpm
    refine wl_f (f_move rfl) (wl_f (f_extract rfl rfl) ?_)
    refine wl_f (f_extract rfl rfl) ?_
    refine wl_e (e_allocs [.string ByteArray.empty, .int .u64 0, .int .u64 0] (by kernel_rfl)) ?_
    rintro _ _ w5_7 ⟨b5_7, rfl, rfl⟩
    refine wl_e0 (e_store0 (us := [_, _, _]) rfl rfl rfl (by kernel_rfl) (by simp [Value.oneCell']) rfl rfl) ?_
    rintro _ _ w5_8 rfl
    refine wl_f (f_assign rfl) (wl_pick [0, 2, 0] rfl ?_)
    refine wl_end [(0, _), (3, _), (6, _), (11, _), (12, _), (13, _)] ⟨rfl, rfl, rfl, rfl, rfl, rfl, trivial⟩ ?_
    refine w_reg (wl_f (f_move rfl) (wl_f (f_loadsb (cs := [_, _, _]) 0 rfl Tryz.underlying46 rfl (by kernel_rfl) rfl rfl) ?_))
    refine wl_e (e_lit1 (cs := [_, _, _]) t42 rfl rfl rfl (by omega)) ?_
    rintro _ _ w6_2 ⟨b6_2, rfl, rfl⟩
    refine wl_e (e_appN 2 t42 rfl rfl rfl (fun w hh => Rd.held0 hh (i := 0) rfl) (by simp [Value.oneCell']) (by omega) (by omega)) ?_
    rintro v2 _ w5 ⟨_, rfl⟩
    refine wl_f (f_assign rfl) (wl_pick [2, 2] rfl ?_)
    refine wl_end [(0, _), (3, _), (11, _), (12, _), (13, _)] ⟨rfl, rfl, rfl, rfl, rfl, trivial⟩ ?_
    refine w_reg (wl_f (f_add rfl rfl (by omega)) ?_)
    refine wl_f (f_move rfl) (wl_end [(0, _), (3, _), (11, _), (12, _), (13, _)] ⟨rfl, rfl, rfl, rfl, rfl, trivial⟩ ?_)
    refine ⟨j - 1, by omega, i + 1, v2, rfl, ?_, by omega⟩
    rw [take_snoc' hpi, List.map_append, List.map_cons, List.map_nil, encs_snoc, List.length_append]
    rfl
  · skip
    refine w_exit0 ?_
    refine w_seq (w_reg (wl_f (f_move rfl) ?_))
    refine wl_e (e_call0 rfl Tryz.func45 (by kernel_rfl) (fun w hh => rsorted_spec O (l.map (rent mode base)) w (by
      have h := Rd.held0 hh (i := 0) rfl
      rw [List.take_of_length_le (by omega)] at h
      exact h) (by rw [List.length_map]; exact hl) (by rw [eks_rent]; exact hnd))) ?_
    rintro v2 _ w5 ⟨_, rfl, es, hes, hse, rfl⟩
    refine wl_f (f_assign rfl) (wl_pick [0, 1] rfl ?_)
    refine wl_end [(2, _)] ⟨rfl, trivial⟩ ?_
    refine w_ret ?_
    refine ⟨_, _, fun a ha hh => results_tmps Tryz.results30 rfl a ha _, List.Sublist.refl _, ?_⟩
    exact ⟨es, hes, hse, rfl⟩
theorem build_rtab (mode n : Int) (w : World) : (Instr.build 65 [(0, .int .i64 mode), (1, .int .i64 n)].toArray).run Tryz.prog w = .ok (.agg [.int .i64 mode, .int .i64 n, .slice .none 0 0, .int .u64 0, .int .u64 0].toArray) w := by kernel_rfl
theorem rtnew_ok (mode n : Nat) (w : World) (hm : mode = 1 ∨ mode = 2) (h1 : 1 ≤ n) (h2 : n ≤ 64) : Spec Tryz.prog 22 [.int .i64 mode, .int .i64 n] w Nil fun r H => ∃ q r', r = .tuple [.pointer (some ⟨q, 0, .none⟩), .int .i64 0].toArray ∧ H = [r'] ∧ RtR q mode n [] 0 0 r' := by
  refine enter (n := 22) Tryz.func22 rfl rfl [(0, _), (1, _)] rfl ⟨rfl, rfl, trivial⟩ (Holds.start _ _) ?_
  refine w_seq (w_reg (wl_f (f_assign rfl) (wl_f (f_assign rfl) (wl_end [(0, _), (1, _)] ⟨rfl, rfl, trivial⟩ ?_))))
  refine w_seq (w_seq (w_reg (wl_f (f_move rfl) (wl_f (f_neq rfl rfl) ?_))))
  refine wl_f (f_move rfl) ?_
  refine wl_and (j := 2) (c := decide ((mode : Int) ≠ 2)) 2 [(0, _), (1, _)] ⟨rfl, rfl, trivial⟩ rfl rfl rfl rfl rfl (fun hg1_5 => ?_) (fun w1_5 => ?_)
  · skip
    refine wl_gf rfl rfl (f_move rfl) ?_
    refine wl_gf rfl rfl (f_neq rfl rfl) ?_
    exact wl_pend rfl rfl ⟨rfl, rfl, trivial⟩ (List.Sublist.refl _)
  refine wl_end [(0, _), (1, _), (11, _)] ⟨rfl, rfl, rfl, trivial⟩ ?_
  refine w_ifb rfl (fun h => absurd h (by rcases hm with rfl | rfl <;> decide)) (fun _ => ?_)
  refine w_skip ?_
  refine w_seq (w_seq (w_reg (wl_f (f_move rfl) (wl_f (f_lss rfl rfl) ?_))))
  refine wl_f (f_move rfl) ?_
  refine wl_or (j := 2) (c := decide (64 < (n : Int))) 2 [(0, _), (1, _)] ⟨rfl, rfl, trivial⟩ rfl rfl rfl rfl rfl (fun hg3_5 => ?_) (fun w3_5 => ?_)
  · skip
    refine wl_gf rfl rfl (f_move rfl) ?_
    refine wl_gf rfl rfl (f_gtr rfl rfl) ?_
    exact wl_pend rfl rfl ⟨rfl, rfl, trivial⟩ (List.Sublist.refl _)
  refine wl_end [(0, _), (1, _), (17, _)] ⟨rfl, rfl, rfl, trivial⟩ ?_
  refine w_ifb rfl (fun h => absurd h (by simp; omega)) (fun _ => ?_)
  refine w_skip ?_
  refine w_seq (w_reg (wl_f (f_move rfl) (wl_f (f_move rfl) (wl_f (f_build rfl (fun w => build_rtab _ _ w)) ?_))))
  refine wl_e (e_box (cs := [_, _, _, _, _]) rfl rfl) ?_
  rintro _ _ w5_3 ⟨b5_3, rfl, rfl⟩
  refine wl_f (f_assign rfl) (wl_f (f_assign rfl) (wl_end [(4, _), (5, _)] ⟨rfl, rfl, trivial⟩ ?_))
  refine w_nilrow 46 3 ?_
  refine w_pick [1, 0] rfl ?_
  refine w_bun (H := []) [_, _] ?_
  refine w_ret ?_
  refine ⟨_, _, fun a ha hh => results_tmps Tryz.results22 rfl a ha _, List.Sublist.refl _, ?_⟩
  exact ⟨b5_3, _, rfl, rfl, _, rfl⟩
end Go.Proofs.YtmagdjlcckgkpaaGreat

/- Tables of either mode: making one; limits; nil tables. -/
namespace Go.Proofs.YtmagdjlcckgkpaaGreat
open Go.RowKit

def tabE (mode n : Int) : Int := if mode = 1 ∨ mode = 2 then if n < 1 ∨ 64 < n then 1 else 0 else 11
theorem build_tab (ty : TypeId) (p : Option Addr) (w : World) : (Instr.build 75 [(0, .iface ty (.pointer p))].toArray).run Tryz.prog w = .ok (.agg [.iface ty (.pointer p)].toArray) w := by kernel_rfl
theorem tnew_ok (mode m : Nat) (w : World) (hmode : mode = 1 ∨ mode = 2) (h1 : 1 ≤ m) (h2 : m ≤ 64) : Spec Tryz.prog 8 [.int .i64 mode, .int .i64 m] w Nil fun r H => ∃ t r', r = .tuple [.pointer (some ⟨t, 0, .none⟩), .int .i64 0].toArray ∧ H = [r'] ∧ TbS t m (TS.new mode m) r' := by
  refine enter (n := 31) Tryz.func8 rfl rfl [(0, _), (1, _)] rfl ⟨rfl, rfl, trivial⟩ (Holds.start _ _) ?_
  refine w_seq (w_reg (wl_f (f_assign rfl) (wl_f (f_assign rfl) (wl_end [(0, _), (1, _)] ⟨rfl, rfl, trivial⟩ ?_))))
  refine w_seq (w_reg (wl_f (f_assign rfl) (wl_end [(0, _), (1, _), (6, _)] ⟨rfl, rfl, rfl, trivial⟩ ?_)))
  refine w_seq (w_reg (wl_f (f_assign rfl) (wl_end [(0, _), (1, _), (6, _)] ⟨rfl, rfl, rfl, trivial⟩ ?_)))
  refine w_seq (w_seq (w_reg (wl_f (f_move rfl) (wl_end [(1, _), (6, _), (8, _)] ⟨rfl, rfl, rfl, trivial⟩ ?_))))
  refine w_post (fun m' H w' => ∃ (b : Nat) (r' : Res) (ty : TypeId), m' = [(6, .iface ty (.pointer (some ⟨b, 0, .none⟩))), (7, .int .i64 0)] ∧ H = [r'] ∧ ∀ t, TbS t m (TS.new mode m) (bun [thd t ty b, r'])) ?_ ?_
  · skip
    refine w_block ?_
    refine w_seq (w_reg (wl_f (f_eql rfl rfl) ?_))
    refine wl_f (f_assign rfl) (wl_end [(1, _), (6, _), (8, _), (9, _)] ⟨rfl, rfl, rfl, rfl, trivial⟩ ?_)
    refine w_ifd rfl (fun hc1 => ?_) (fun hc1 => ?_)
    · skip
      have hm1 : mode = 1 := by
        have : (mode : Int) = 1 := hc1
        omega
      refine w_reg (wl_f (f_move rfl) (wl_e (e_call0 rfl Tryz.func33 (by kernel_rfl) (fun w hh => svnew_ok m w h1 h2)) ?_))
      rintro _ _ w1 ⟨_, rfl, b, r', rfl, rfl, hr'⟩
      refine wl_f (f_move rfl) (wl_f (f_extract rfl rfl) ?_)
      refine wl_f (f_iface rfl Tryz.underlying68 rfl) ?_
      refine wl_f (f_extract rfl rfl) ?_
      refine wl_f (f_assign rfl) (wl_f (f_assign rfl) (wl_end [(6, _), (7, _)] ⟨rfl, rfl, trivial⟩ ?_))
      refine ⟨b, r', _, rfl, rfl, fun t => ?_⟩
      rw [TS.new, if_pos hm1]
      exact ⟨b, r', rfl, hr'⟩
    · skip
      have hm1 : mode = 2 := by
        have : ¬ (mode : Int) = 1 := hc1
        omega
      refine w_seq (w_reg (wl_f (f_eql rfl rfl) ?_))
      refine wl_f (f_assign rfl) (wl_end [(1, _), (6, _), (17, _)] ⟨rfl, rfl, rfl, trivial⟩ ?_)
      refine w_ifd rfl (fun _ => ?_) (fun h => absurd (show (mode : Int) = 2 by omega) h)
      refine w_reg (wl_f (f_move rfl) (wl_e (e_call0 rfl Tryz.func34 (by kernel_rfl) (fun w hh => frnew_ok m w h1 h2)) ?_))
      rintro _ _ w1 ⟨_, rfl, b, r', rfl, rfl, hr'⟩
      refine wl_f (f_move rfl) (wl_f (f_extract rfl rfl) ?_)
      refine wl_f (f_iface rfl Tryz.underlying71 rfl) ?_
      refine wl_f (f_extract rfl rfl) ?_
      refine wl_f (f_assign rfl) (wl_f (f_assign rfl) (wl_end [(6, _), (7, _)] ⟨rfl, rfl, trivial⟩ ?_))
      refine ⟨b, r', _, rfl, rfl, fun t => ?_⟩
      rw [TS.new, if_neg (by omega)]
      exact ⟨b, r', rfl, hr'⟩
  · rintro _ _ w2 ⟨b, r', ty, rfl, rfl, hr'⟩
    refine w_seq (w_seq (w_reg (wl_f (f_move rfl) (wl_f (f_neq rfl rfl) ?_))))
    refine wl_end [(6, _), (7, _), (26, _)] ⟨rfl, rfl, rfl, trivial⟩ ?_
    refine w_ifd rfl (fun h => absurd rfl h) (fun _ => ?_)
    refine w_skip ?_
    refine w_seq (w_reg (wl_f (f_move rfl) (wl_f (f_build rfl (fun w => build_tab _ _ w)) ?_)))
    refine wl_e (e_box (cs := [_]) rfl rfl) ?_
    rintro _ _ w11_2 ⟨b11_2, rfl, rfl⟩
    refine wl_f (f_assign rfl) (wl_f (f_assign rfl) (wl_end [(4, _), (5, _)] ⟨rfl, rfl, trivial⟩ ?_))
    refine w_bun (H := []) [thd b11_2 ty b, r'] ?_
    refine w_ret ?_
    refine ⟨_, _, fun a ha hh => results_tmps Tryz.results8 rfl a ha _, List.Sublist.refl _, ?_⟩
    exact ⟨b11_2, _, rfl, rfl, hr' _⟩
theorem svnew_form (n : Int) (w : World) : Spec Tryz.prog 33 [.int .i64 n] w Nil fun r H => ∃ (p : Option Addr), r = .tuple [.pointer p, .int .i64 (if n < 1 ∨ 64 < n then 1 else 0)].toArray ∧ p.isNone = decide (n < 1 ∨ 64 < n) := by
  by_cases h : n < 1 ∨ 64 < n
  · exact (svnew_bad n w h).mono fun v H hv => ⟨.none, by rw [hv.1, if_pos h], (decide_eq_true h).symm⟩
  · obtain ⟨k, rfl⟩ : ∃ k : Nat, n = k := ⟨n.toNat, by omega⟩
    exact (svnew_ok k w (by omega) (by omega)).mono fun v H hv => by
      obtain ⟨b, r', rfl, _⟩ := hv
      exact ⟨some ⟨b, 0, .none⟩, by rw [if_neg h], (decide_eq_false h).symm⟩
theorem frnew_form (n : Int) (w : World) : Spec Tryz.prog 34 [.int .i64 n] w Nil fun r H => ∃ (p : Option Addr), r = .tuple [.pointer p, .int .i64 (if n < 1 ∨ 64 < n then 1 else 0)].toArray ∧ p.isNone = decide (n < 1 ∨ 64 < n) := by
  by_cases h : n < 1 ∨ 64 < n
  · exact (frnew_bad n w h).mono fun v H hv => ⟨.none, by rw [hv.1, if_pos h], (decide_eq_true h).symm⟩
  · obtain ⟨k, rfl⟩ : ∃ k : Nat, n = k := ⟨n.toNat, by omega⟩
    exact (frnew_ok k w (by omega) (by omega)).mono fun v H hv => by
      obtain ⟨b, r', rfl, _⟩ := hv
      exact ⟨some ⟨b, 0, .none⟩, by rw [if_neg h], (decide_eq_false h).symm⟩
theorem tnew_form (mode n : Int) (w : World) : Spec Tryz.prog 8 [.int .i64 mode, .int .i64 n] w Nil fun r H => ∃ (p : Option Addr), r = .tuple [.pointer p, .int .i64 (tabE mode n)].toArray ∧ p.isNone = decide (tabE mode n ≠ 0) := by
  refine enter (n := 31) Tryz.func8 rfl rfl [(0, _), (1, _)] rfl ⟨rfl, rfl, trivial⟩ (Holds.start _ _) ?_
  refine w_seq (w_reg (wl_f (f_assign rfl) (wl_f (f_assign rfl) (wl_end [(0, _), (1, _)] ⟨rfl, rfl, trivial⟩ ?_))))
  refine w_seq (w_reg (wl_f (f_assign rfl) (wl_end [(0, _), (1, _), (6, _)] ⟨rfl, rfl, rfl, trivial⟩ ?_)))
  refine w_seq (w_reg (wl_f (f_assign rfl) (wl_end [(0, _), (1, _), (6, _)] ⟨rfl, rfl, rfl, trivial⟩ ?_)))
  refine w_seq (w_seq (w_reg (wl_f (f_move rfl) (wl_end [(1, _), (6, _), (8, _)] ⟨rfl, rfl, rfl, trivial⟩ ?_))))
  refine w_post (fun m' H w' => ∃ (v : Value), m' = [(6, v), (7, .int .i64 (tabE mode n))] ∧ H = [] ∧ (tabE mode n = 0 → ∃ ty p, v = .iface ty (.pointer p))) ?_ ?_
  · skip
    refine w_block ?_
    refine w_seq (w_reg (wl_f (f_eql rfl rfl) ?_))
    refine wl_f (f_assign rfl) (wl_end [(1, _), (6, _), (8, _), (9, _)] ⟨rfl, rfl, rfl, rfl, trivial⟩ ?_)
    refine w_ifd rfl (fun hc1 => ?_) (fun hc1 => ?_)
    · skip
      have he : tabE mode n = if n < 1 ∨ 64 < n then 1 else 0 := if_pos (.inl hc1)
      refine w_reg (wl_f (f_move rfl) (wl_e (e_call0 rfl Tryz.func33 (by kernel_rfl) (fun w hh => svnew_form n w)) ?_))
      rintro _ _ w1 ⟨H1, rfl, p, rfl, hp⟩
      refine wl_drop _ (List.sublist_append_right _ _) ?_
      refine wl_f (f_move rfl) (wl_f (f_extract rfl rfl) ?_)
      refine wl_f (f_iface rfl Tryz.underlying68 rfl) ?_
      refine wl_f (f_extract rfl rfl) ?_
      refine wl_f (f_assign rfl) (wl_f (f_assign rfl) (wl_end [(6, _), (7, _)] ⟨rfl, rfl, trivial⟩ ?_))
      exact ⟨_, by rw [he], rfl, fun _ => ⟨_, _, rfl⟩⟩
    · skip
      refine w_seq (w_reg (wl_f (f_eql rfl rfl) ?_))
      refine wl_f (f_assign rfl) (wl_end [(1, _), (6, _), (17, _)] ⟨rfl, rfl, rfl, trivial⟩ ?_)
      refine w_ifd rfl (fun hc2 => ?_) (fun hc2 => ?_)
      · skip
        have he : tabE mode n = if n < 1 ∨ 64 < n then 1 else 0 := if_pos (.inr hc2)
        refine w_reg (wl_f (f_move rfl) (wl_e (e_call0 rfl Tryz.func34 (by kernel_rfl) (fun w hh => frnew_form n w)) ?_))
        rintro _ _ w1 ⟨H1, rfl, p, rfl, hp⟩
        refine wl_drop _ (List.sublist_append_right _ _) ?_
        refine wl_f (f_move rfl) (wl_f (f_extract rfl rfl) ?_)
        refine wl_f (f_iface rfl Tryz.underlying71 rfl) ?_
        refine wl_f (f_extract rfl rfl) ?_
        refine wl_f (f_assign rfl) (wl_f (f_assign rfl) (wl_end [(6, _), (7, _)] ⟨rfl, rfl, trivial⟩ ?_))
        exact ⟨_, by rw [he], rfl, fun _ => ⟨_, _, rfl⟩⟩
      · skip
        have he : tabE mode n = 11 := if_neg (fun h => h.elim hc1 hc2)
        refine w_reg (wl_f (f_assign rfl) (wl_end [(6, _), (7, _)] ⟨rfl, rfl, trivial⟩ ?_))
        exact ⟨_, by rw [he], rfl, fun h => by rw [he] at h; cases h⟩
  · rintro _ _ w2 ⟨v, rfl, rfl, hv⟩
    refine w_seq (w_seq (w_reg (wl_f (f_move rfl) (wl_f (f_neq rfl rfl) ?_))))
    refine wl_end [(6, _), (7, _), (26, _)] ⟨rfl, rfl, rfl, trivial⟩ ?_
    refine w_ifd rfl (fun hc3 => ?_) (fun hc3 => ?_)
    · skip
      refine w_seq (w_reg (wl_f (f_move rfl) (wl_f (f_assign rfl) (wl_f (f_assign rfl) (wl_end [(4, _), (5, _)] ⟨rfl, rfl, trivial⟩ ?_)))))
      refine w_ret ?_
      refine ⟨_, _, fun a ha hh => results_tmps Tryz.results8 rfl a ha _, List.Sublist.refl _, ?_⟩
      exact ⟨.none, rfl, (decide_eq_true hc3).symm⟩
    · skip
      have h0 : tabE mode n = 0 := Classical.not_not.1 hc3
      obtain ⟨ty, p, rfl⟩ := hv h0
      refine w_skip ?_
      refine w_seq (w_reg (wl_f (f_move rfl) (wl_f (f_build rfl (fun w => build_tab _ _ w)) ?_)))
      refine wl_e (e_box (cs := [_]) rfl rfl) ?_
      rintro _ _ w11_2 ⟨b11_2, rfl, rfl⟩
      refine wl_f (f_assign rfl) (wl_f (f_assign rfl) (wl_end [(4, _), (5, _)] ⟨rfl, rfl, trivial⟩ ?_))
      refine w_ret ?_
      refine ⟨_, _, fun a ha hh => results_tmps Tryz.results8 rfl a ha _, List.Sublist.refl _, ?_⟩
      exact ⟨some ⟨b11_2, 0, .none⟩, by rw [h0]; rfl, by rw [decide_eq_false hc3]; rfl⟩
theorem rnew_form (mode n : Int) (w : World) : Spec Tryz.prog 22 [.int .i64 mode, .int .i64 n] w Nil fun r H => ∃ (p : Option Addr), r = .tuple [.pointer p, .int .i64 (tabE mode n)].toArray := by
  refine enter (n := 22) Tryz.func22 rfl rfl [(0, _), (1, _)] rfl ⟨rfl, rfl, trivial⟩ (Holds.start _ _) ?_
  refine w_seq (w_reg (wl_f (f_assign rfl) (wl_f (f_assign rfl) (wl_end [(0, _), (1, _)] ⟨rfl, rfl, trivial⟩ ?_))))
  refine w_seq (w_seq (w_reg (wl_f (f_move rfl) (wl_f (f_neq rfl rfl) ?_))))
  refine wl_f (f_move rfl) ?_
  refine wl_and (j := 2) (c := decide (mode ≠ 2)) 2 [(0, _), (1, _)] ⟨rfl, rfl, trivial⟩ rfl rfl rfl rfl rfl (fun hg1_5 => ?_) (fun w1_5 => ?_)
  · skip
    refine wl_gf rfl rfl (f_move rfl) ?_
    refine wl_gf rfl rfl (f_neq rfl rfl) ?_
    exact wl_pend rfl rfl ⟨rfl, rfl, trivial⟩ (List.Sublist.refl _)
  refine wl_end [(0, _), (1, _), (11, _)] ⟨rfl, rfl, rfl, trivial⟩ ?_
  refine w_ifb rfl (fun hc1 => ?_) (fun hc1 => ?_)
  · skip
    have he : tabE mode n = 11 := by
      simp only [Bool.and_eq_true, decide_eq_true_eq] at hc1
      exact if_neg (fun h => h.elim hc1.1 hc1.2)
    refine w_seq (w_reg (wl_f (f_assign rfl) (wl_f (f_assign rfl) (wl_end [(4, _), (5, _)] ⟨rfl, rfl, trivial⟩ ?_))))
    refine w_ret ?_
    refine ⟨_, _, fun a ha hh => results_tmps Tryz.results22 rfl a ha _, List.Sublist.refl _, ?_⟩
    exact ⟨.none, by rw [he]; rfl⟩
  · skip
    have hm : mode = 1 ∨ mode = 2 := by
      simp only [Bool.and_eq_true, decide_eq_true_eq] at hc1
      omega
    refine w_skip ?_
    refine w_seq (w_seq (w_reg (wl_f (f_move rfl) (wl_f (f_lss rfl rfl) ?_))))
    refine wl_f (f_move rfl) ?_
    refine wl_or (j := 2) (c := decide (64 < n)) 2 [(0, _), (1, _)] ⟨rfl, rfl, trivial⟩ rfl rfl rfl rfl rfl (fun hg3_5 => ?_) (fun w3_5 => ?_)
    · skip
      refine wl_gf rfl rfl (f_move rfl) ?_
      refine wl_gf rfl rfl (f_gtr rfl rfl) ?_
      exact wl_pend rfl rfl ⟨rfl, rfl, trivial⟩ (List.Sublist.refl _)
    refine wl_end [(0, _), (1, _), (17, _)] ⟨rfl, rfl, rfl, trivial⟩ ?_
    refine w_ifb rfl (fun hc2 => ?_) (fun hc2 => ?_)
    · skip
      have he : tabE mode n = 1 := (if_pos hm).trans (if_pos (by simpa [Bool.or_eq_true] using hc2))
      refine w_seq (w_reg (wl_f (f_assign rfl) (wl_f (f_assign rfl) (wl_end [(4, _), (5, _)] ⟨rfl, rfl, trivial⟩ ?_))))
      refine w_ret ?_
      refine ⟨_, _, fun a ha hh => results_tmps Tryz.results22 rfl a ha _, List.Sublist.refl _, ?_⟩
      exact ⟨.none, by rw [he]; rfl⟩
    · skip
      have he : tabE mode n = 0 := (if_pos hm).trans (if_neg (by simpa [Bool.or_eq_true] using hc2))
      refine w_skip ?_
      refine w_seq (w_reg (wl_f (f_move rfl) (wl_f (f_move rfl) (wl_f (f_build rfl (fun w => build_rtab _ _ w)) ?_))))
      refine wl_e (e_box (cs := [_, _, _, _, _]) rfl rfl) ?_
      rintro _ _ w5_3 ⟨b5_3, rfl, rfl⟩
      refine wl_f (f_assign rfl) (wl_f (f_assign rfl) (wl_end [(4, _), (5, _)] ⟨rfl, rfl, trivial⟩ ?_))
      refine w_ret ?_
      refine ⟨_, _, fun a ha hh => results_tmps Tryz.results22 rfl a ha _, List.Sublist.refl _, ?_⟩
      exact ⟨some ⟨b5_3, 0, .none⟩, by rw [he]; rfl⟩
def tabL (mode n : Int) (total : Nat) : Nat := if n < 1 ∨ 64 < n then total else if mode = 1 then total / n.toNat else if mode = 2 then total / (n.toNat + 1) else total
theorem share_spec (total parts : Nat) (w : World) (ht : total < 18446744073709551616) (hp : 1 ≤ parts) (hp2 : parts ≤ 65) : Spec Tryz.prog 37 [.int .u64 (total : Int), .int .i64 (parts : Int)] w Nil fun r H => r = .int .u64 ((total / parts : Nat) : Int) ∧ H = [] := by
  refine enter (n := 12) Tryz.func37 rfl rfl [(0, _), (1, _)] rfl ⟨rfl, rfl, trivial⟩ (Holds.start _ _) ?_
  refine w_seq (w_reg (wl_f (f_assign rfl) (wl_end [(0, _), (1, _)] ⟨rfl, rfl, trivial⟩ ?_)))
  refine w_seq (w_seq (w_reg (wl_f (f_move rfl) (wl_f (f_lss rfl rfl) ?_))))
  refine wl_end [(0, _), (1, _), (6, _)] ⟨rfl, rfl, rfl, trivial⟩ ?_
  refine w_ifd rfl (fun h => absurd (show (parts : Int) < 1 from h) (by omega)) (fun _ => ?_)
  refine w_skip ?_
  refine w_seq (w_reg (wl_f (f_move rfl) (wl_f (f_move rfl) (wl_f (f_convu rfl Tryz.underlying3 Tryz.underlying33 (by omega)) ?_))))
  refine wl_f (f_quou rfl rfl (by omega)) ?_
  refine wl_f (f_assign rfl) (wl_end [(4, _)] ⟨rfl, trivial⟩ ?_)
  refine w_ret ?_
  refine ⟨_, _, fun a ha hh => results_tmps Tryz.results37 rfl a ha _, List.Sublist.refl _, ?_⟩
  exact ⟨by rw [Int.natCast_ediv]; rfl, rfl⟩
theorem tlimit_spec (mode n : Int) (total : Nat) (w : World) (ht : total < 18446744073709551616) : Spec Tryz.prog 21 [.int .i64 mode, .int .i64 n, .int .u64 (total : Int)] w Nil fun r H => r = .int .u64 (tabL mode n total : Nat) ∧ H = [] := by
  refine enter (n := 27) Tryz.func21 rfl rfl [(0, _), (1, _), (2, _)] rfl ⟨rfl, rfl, rfl, trivial⟩ (Holds.start _ _) ?_
  refine w_seq (w_reg (wl_f (f_assign rfl) (wl_end [(0, _), (1, _), (2, _)] ⟨rfl, rfl, rfl, trivial⟩ ?_)))
  refine w_seq (w_seq (w_reg (wl_f (f_move rfl) (wl_f (f_lss rfl rfl) ?_))))
  refine wl_f (f_move rfl) ?_
  refine wl_or (j := 2) (c := decide (64 < n)) 2 [(0, _), (1, _), (2, _)] ⟨rfl, rfl, rfl, trivial⟩ rfl rfl rfl rfl rfl (fun hg1_5 => ?_) (fun w1_5 => ?_)
  · skip
    refine wl_gf rfl rfl (f_move rfl) ?_
    refine wl_gf rfl rfl (f_gtr rfl rfl) ?_
    exact wl_pend rfl rfl ⟨rfl, rfl, rfl, trivial⟩ (List.Sublist.refl _)
  refine wl_end [(0, _), (1, _), (2, _), (12, _)] ⟨rfl, rfl, rfl, rfl, trivial⟩ ?_
  refine w_ifb rfl (fun hc1 => ?_) (fun hc1 => ?_)
  · skip
    have h : n < 1 ∨ 64 < n := by simpa [Bool.or_eq_true] using hc1
    refine w_seq (w_reg (wl_f (f_move rfl) (wl_f (f_assign rfl) (wl_end [(6, _)] ⟨rfl, trivial⟩ ?_))))
    refine w_ret ?_
    refine ⟨_, _, fun a ha hh => results_tmps Tryz.results21 rfl a ha _, List.Sublist.refl _, ?_⟩
    have e : tabL mode n total = total := if_pos h
    rw [e]; exact ⟨rfl, rfl⟩
  · skip
    have h : ¬ (n < 1 ∨ 64 < n) := by simpa [Bool.or_eq_true] using hc1
    obtain ⟨k, rfl⟩ : ∃ k : Nat, n = k := ⟨n.toNat, by omega⟩
    refine w_skip ?_
    refine w_seq (w_seq (w_reg (wl_f (f_move rfl) (wl_end [(1, _), (2, _), (14, _)] ⟨rfl, rfl, rfl, trivial⟩ ?_))))
    refine w_block ?_
    refine w_seq (w_reg (wl_f (f_eql rfl rfl) ?_))
    refine wl_f (f_assign rfl) (wl_end [(1, _), (2, _), (14, _), (15, _)] ⟨rfl, rfl, rfl, rfl, trivial⟩ ?_)
    refine w_ifd rfl (fun hc2 => ?_) (fun hc2 => ?_)
    · skip
      refine w_seq (w_reg (wl_f (f_move rfl) (wl_f (f_move rfl) (wl_e (e_call0 rfl Tryz.func37 (by kernel_rfl) (fun w hh => share_spec total k w ht (by omega) (by omega))) ?_))))
      rintro _ _ w1 ⟨_, rfl, rfl, rfl⟩
      refine wl_f (f_assign rfl) (wl_end [(6, _)] ⟨rfl, trivial⟩ ?_)
      refine w_ret ?_
      refine ⟨_, _, fun a ha hh => results_tmps Tryz.results21 rfl a ha _, List.Sublist.refl _, ?_⟩
      have e : tabL mode k total = total / k := (if_neg h).trans (if_pos hc2)
      rw [e]; exact ⟨rfl, rfl⟩
    · skip
      refine w_seq (w_reg (wl_f (f_eql rfl rfl) ?_))
      refine wl_f (f_assign rfl) (wl_end [(1, _), (2, _), (20, _)] ⟨rfl, rfl, rfl, trivial⟩ ?_)
      refine w_ifd rfl (fun hc3 => ?_) (fun hc3 => ?_)
      · skip
        refine w_seq (w_reg (wl_f (f_move rfl) (wl_f (f_move rfl) (wl_f (f_eqv (v' := .int .i64 ((k + 1 : Nat) : Int)) (f_add rfl rfl (by omega)) (by congr 1)) ?_))))
        refine wl_e (e_call0 rfl Tryz.func37 (by kernel_rfl) (fun w hh => share_spec total (k + 1) w ht (by omega) (by omega))) ?_
        rintro _ _ w1 ⟨_, rfl, rfl, rfl⟩
        refine wl_f (f_assign rfl) (wl_end [(6, _)] ⟨rfl, trivial⟩ ?_)
        refine w_ret ?_
        refine ⟨_, _, fun a ha hh => results_tmps Tryz.results21 rfl a ha _, List.Sublist.refl _, ?_⟩
        have e : tabL mode k total = total / (k + 1) := (if_neg h).trans ((if_neg hc2).trans (if_pos hc3))
        rw [e]; exact ⟨rfl, rfl⟩
      · skip
        refine w_skip ?_
        refine w_seq (w_reg (wl_f (f_move rfl) (wl_f (f_assign rfl) (wl_end [(6, _)] ⟨rfl, trivial⟩ ?_))))
        refine w_ret ?_
        refine ⟨_, _, fun a ha hh => results_tmps Tryz.results21 rfl a ha _, List.Sublist.refl _, ?_⟩
        have e : tabL mode k total = total := (if_neg h).trans ((if_neg hc2).trans (if_neg hc3))
        rw [e]; exact ⟨rfl, rfl⟩
theorem awake15_spec (w : World) : Spec Tryz.prog 13 [] w Nil fun r H => r = .bool true := by
  refine enter (n := 15) Tryz.func13 rfl rfl [] rfl trivial (Holds.start _ _) ?_
  refine w_seq (w_reg (wl_f (f_assign rfl) (wl_end [] trivial ?_)))
  refine w_seq (w_reg (wl_e (e_call0 rfl Tryz.func21 (by kernel_rfl) (fun w hh => tlimit_spec 1 4 10 w (by omega))) ?_))
  rintro _ _ w1 ⟨_, rfl, rfl, rfl⟩
  refine wl_f (f_eql rfl rfl) ?_
  refine wl_f (f_move rfl) ?_
  refine wl_and (j := 2) (c := true) 2 [] trivial rfl rfl rfl rfl rfl (fun hg1_5 => ?_) (fun w1_5 => ?_)
  · skip
    refine wl_ge rfl rfl (e_call0 rfl Tryz.func21 (by kernel_rfl) (fun w hh => tlimit_spec 2 4 10 w (by omega))) ?_
    rintro _ _ w2 ⟨_, rfl, rfl, rfl⟩
    refine wl_gf rfl rfl (f_eql rfl rfl) ?_
    exact wl_pend rfl rfl trivial (List.Sublist.refl _)
  refine wl_f (f_move rfl) ?_
  refine wl_and (j := 6) (c := true) 2 [] trivial rfl rfl rfl rfl rfl (fun hg1_9 => ?_) (fun w1_9 => ?_)
  · skip
    refine wl_ge rfl rfl (e_call0 rfl Tryz.func21 (by kernel_rfl) (fun w hh => tlimit_spec 1 4 12 w (by omega))) ?_
    rintro _ _ w3 ⟨_, rfl, rfl, rfl⟩
    refine wl_gf rfl rfl (f_eql rfl rfl) ?_
    exact wl_pend rfl rfl trivial (List.Sublist.refl _)
  refine wl_f (f_move rfl) ?_
  refine wl_and (j := 10) (c := true) 2 [] trivial rfl rfl rfl rfl rfl (fun hg1_13 => ?_) (fun w1_13 => ?_)
  · skip
    refine wl_ge rfl rfl (e_call0 rfl Tryz.func21 (by kernel_rfl) (fun w hh => tlimit_spec 2 4 12 w (by omega))) ?_
    rintro _ _ w4 ⟨_, rfl, rfl, rfl⟩
    refine wl_gf rfl rfl (f_eql rfl rfl) ?_
    exact wl_pend rfl rfl trivial (List.Sublist.refl _)
  refine wl_f (f_assign rfl) (wl_end [(0, _)] ⟨rfl, trivial⟩ ?_)
  refine w_ret ?_
  refine ⟨_, _, fun a ha hh => results_tmps Tryz.results13 rfl a ha _, List.Sublist.refl _, ?_⟩
  rfl
theorem tuntracked_nil (w : World) : Spec Tryz.prog 15 [.pointer .none] w Nil fun r H => r = .int .u64 0 := by
  refine enter (n := 10) Tryz.func15 rfl rfl [(0, _)] rfl ⟨rfl, trivial⟩ (Holds.start _ _) ?_
  refine w_seq (w_reg (wl_f (f_assign rfl) (wl_end [(0, _)] ⟨rfl, trivial⟩ ?_)))
  refine w_seq (w_seq (w_reg (wl_f (f_move rfl) (wl_f (f_eqlnil rfl rfl Tryz.underlying24) ?_))))
  refine wl_end [(0, _), (4, _)] ⟨rfl, rfl, trivial⟩ ?_
  refine w_ift rfl ?_
  refine w_seq (w_reg (wl_f (f_assign rfl) (wl_end [(2, _)] ⟨rfl, trivial⟩ ?_)))
  refine w_ret ?_
  refine ⟨_, _, fun a ha hh => results_tmps Tryz.results15 rfl a ha _, List.Sublist.refl _, ?_⟩
  rfl
theorem ttotal_nil (w : World) : Spec Tryz.prog 16 [.pointer .none] w Nil fun r H => r = .int .u64 0 := by
  refine enter (n := 10) Tryz.func16 rfl rfl [(0, _)] rfl ⟨rfl, trivial⟩ (Holds.start _ _) ?_
  refine w_seq (w_reg (wl_f (f_assign rfl) (wl_end [(0, _)] ⟨rfl, trivial⟩ ?_)))
  refine w_seq (w_seq (w_reg (wl_f (f_move rfl) (wl_f (f_eqlnil rfl rfl Tryz.underlying24) ?_))))
  refine wl_end [(0, _), (4, _)] ⟨rfl, rfl, trivial⟩ ?_
  refine w_ift rfl ?_
  refine w_seq (w_reg (wl_f (f_assign rfl) (wl_end [(2, _)] ⟨rfl, trivial⟩ ?_)))
  refine w_ret ?_
  refine ⟨_, _, fun a ha hh => results_tmps Tryz.results16 rfl a ha _, List.Sublist.refl _, ?_⟩
  rfl
theorem tlen_nil (w : World) : Spec Tryz.prog 25 [.pointer .none] w Nil fun r H => r = .int .i64 0 := by
  refine enter (n := 10) Tryz.func25 rfl rfl [(0, _)] rfl ⟨rfl, trivial⟩ (Holds.start _ _) ?_
  refine w_seq (w_reg (wl_f (f_assign rfl) (wl_end [(0, _)] ⟨rfl, trivial⟩ ?_)))
  refine w_seq (w_seq (w_reg (wl_f (f_move rfl) (wl_f (f_eqlnil rfl rfl Tryz.underlying24) ?_))))
  refine wl_end [(0, _), (4, _)] ⟨rfl, rfl, trivial⟩ ?_
  refine w_ift rfl ?_
  refine w_seq (w_reg (wl_f (f_assign rfl) (wl_end [(2, _)] ⟨rfl, trivial⟩ ?_)))
  refine w_ret ?_
  refine ⟨_, _, fun a ha hh => results_tmps Tryz.results25 rfl a ha _, List.Sublist.refl _, ?_⟩
  rfl
theorem tentries_nil (w : World) : Spec Tryz.prog 14 [.pointer .none] w Nil fun r H => r = .slice .none 0 0 := by
  refine enter (n := 10) Tryz.func14 rfl rfl [(0, _)] rfl ⟨rfl, trivial⟩ (Holds.start _ _) ?_
  refine w_seq (w_reg (wl_f (f_assign rfl) (wl_end [(0, _)] ⟨rfl, trivial⟩ ?_)))
  refine w_seq (w_seq (w_reg (wl_f (f_move rfl) (wl_f (f_eqlnil rfl rfl Tryz.underlying24) ?_))))
  refine wl_end [(0, _), (4, _)] ⟨rfl, rfl, trivial⟩ ?_
  refine w_ift rfl ?_
  refine w_seq (w_reg (wl_f (f_assign rfl) (wl_end [(2, _)] ⟨rfl, trivial⟩ ?_)))
  refine w_ret ?_
  refine ⟨_, _, fun a ha hh => results_tmps Tryz.results14 rfl a ha _, List.Sublist.refl _, ?_⟩
  rfl
theorem tadd_nil (k : ByteArray) (v : Int) (w : World) : Spec Tryz.prog 11 [.pointer .none, .string k, .int .u64 v] w Nil fun r H => r = .int .i64 8 := by
  refine enter (n := 16) Tryz.func11 rfl rfl [(0, _), (1, _), (2, _)] rfl ⟨rfl, rfl, rfl, trivial⟩ (Holds.start _ _) ?_
  refine w_seq (w_reg (wl_f (f_assign rfl) (wl_end [(0, _), (1, _), (2, _)] ⟨rfl, rfl, rfl, trivial⟩ ?_)))
  refine w_seq (w_seq (w_reg (wl_f (f_move rfl) (wl_f (f_eqlnil rfl rfl Tryz.underlying24) ?_))))
  refine wl_end [(0, _), (1, _), (2, _), (8, _)] ⟨rfl, rfl, rfl, rfl, trivial⟩ ?_
  refine w_ift rfl ?_
  refine w_seq (w_reg (wl_f (f_assign rfl) (wl_end [(6, _)] ⟨rfl, trivial⟩ ?_)))
  refine w_ret ?_
  refine ⟨_, _, fun a ha hh => results_tmps Tryz.results11 rfl a ha _, List.Sublist.refl _, ?_⟩
  rfl
theorem tget_nil (k : ByteArray) (w : World) : Spec Tryz.prog 24 [.pointer .none, .string k] w Nil fun v H => v = .tuple [enZ, .bool false].toArray := by
  refine enter (n := 17) Tryz.func24 rfl rfl [(0, _), (1, _)] rfl ⟨rfl, rfl, trivial⟩ (Holds.start _ _) ?_
  refine w_seq (w_reg (wl_e (e_allocs [.string ByteArray.empty, .int .u64 0, .int .u64 0] (by kernel_rfl)) ?_))
  rintro _ _ w0_0 ⟨b0_0, rfl, rfl⟩
  refine wl_f (f_assign rfl) (wl_end [(0, _), (1, _), (4, _)] ⟨rfl, rfl, rfl, trivial⟩ ?_)
  refine w_seq (w_seq (w_reg (wl_f (f_move rfl) (wl_f (f_eqlnil rfl rfl Tryz.underlying24) ?_))))
  refine wl_end [(0, _), (1, _), (4, _), (7, _)] ⟨rfl, rfl, rfl, rfl, trivial⟩ ?_
  refine w_ift rfl ?_
  refine w_seq (w_reg (wl_f (f_build rfl build_entry0) ?_))
  refine wl_e0 (e_store0 (us := [_, _, _]) rfl rfl rfl (by kernel_rfl) (by simp [Value.oneCell']) rfl rfl) ?_
  rintro _ _ w2_1 rfl
  refine wl_f (f_assign rfl) (wl_end [(4, _), (5, _)] ⟨rfl, rfl, trivial⟩ ?_)
  refine w_ret ?_
  refine ⟨_, _, fun a ha hh => results_mix Tryz.results24 (rm_cell (cell_agg 0 rfl Tryz.underlying46 rfl (by kernel_rfl) rfl) (rm_tmp rfl rm_nil)) a ha _ hh, List.nil_sublist _, ?_⟩
  rfl
theorem ttake_nil (k : ByteArray) (w : World) : Spec Tryz.prog 17 [.pointer .none, .string k] w Nil fun v H => v = .tuple [enZ, .bool false].toArray := by
  refine enter (n := 17) Tryz.func17 rfl rfl [(0, _), (1, _)] rfl ⟨rfl, rfl, trivial⟩ (Holds.start _ _) ?_
  refine w_seq (w_reg (wl_e (e_allocs [.string ByteArray.empty, .int .u64 0, .int .u64 0] (by kernel_rfl)) ?_))
  rintro _ _ w0_0 ⟨b0_0, rfl, rfl⟩
  refine wl_f (f_assign rfl) (wl_end [(0, _), (1, _), (4, _)] ⟨rfl, rfl, rfl, trivial⟩ ?_)
  refine w_seq (w_seq (w_reg (wl_f (f_move rfl) (wl_f (f_eqlnil rfl rfl Tryz.underlying24) ?_))))
  refine wl_end [(0, _), (1, _), (4, _), (7, _)] ⟨rfl, rfl, rfl, rfl, trivial⟩ ?_
  refine w_ift rfl ?_
  refine w_seq (w_reg (wl_f (f_build rfl build_entry0) ?_))
  refine wl_e0 (e_store0 (us := [_, _, _]) rfl rfl rfl (by kernel_rfl) (by simp [Value.oneCell']) rfl rfl) ?_
  rintro _ _ w2_1 rfl
  refine wl_f (f_assign rfl) (wl_end [(4, _), (5, _)] ⟨rfl, rfl, trivial⟩ ?_)
  refine w_ret ?_
  refine ⟨_, _, fun a ha hh => results_mix Tryz.results17 (rm_cell (cell_agg 0 rfl Tryz.underlying46 rfl (by kernel_rfl) rfl) (rm_tmp rfl rm_nil)) a ha _ hh, List.nil_sublist _, ?_⟩
  rfl
theorem tswap_nil (k x : ByteArray) (o s : Int) (w : World) : Spec Tryz.prog 20 [.pointer .none, .string k, .agg #[.string x, .int .u64 o, .int .u64 s]] w Nil fun v H => v = .tuple [enZ, .int .i64 8].toArray := by
  refine enter (n := 20) Tryz.func20 rfl rfl [(0, _), (1, _), (2, _)] rfl ⟨rfl, rfl, rfl, trivial⟩ (Holds.start _ _) ?_
  refine w_seq (w_reg (wl_e (e_box (cs := [_, _, _]) rfl rfl) ?_))
  rintro _ _ w0_0 ⟨b0_0, rfl, rfl⟩
  refine wl_e (e_allocs [.string ByteArray.empty, .int .u64 0, .int .u64 0] (by kernel_rfl)) ?_
  rintro _ _ w0_1 ⟨b0_1, rfl, rfl⟩
  refine wl_f (f_assign rfl) (wl_end [(0, _), (1, _), (5, _), (6, _)] ⟨rfl, rfl, rfl, rfl, trivial⟩ ?_)
  refine w_seq (w_seq (w_reg (wl_f (f_move rfl) (wl_f (f_eqlnil rfl rfl Tryz.underlying24) ?_))))
  refine wl_end [(0, _), (1, _), (5, _), (6, _), (9, _)] ⟨rfl, rfl, rfl, rfl, rfl, trivial⟩ ?_
  refine w_ift rfl ?_
  refine w_seq (w_reg (wl_f (f_build rfl build_entry0) ?_))
  refine wl_e0 (e_store0 (us := [_, _, _]) rfl rfl rfl (by kernel_rfl) (by simp [Value.oneCell']) rfl rfl) ?_
  rintro _ _ w2_1 rfl
  refine wl_f (f_assign rfl) (wl_end [(6, _), (7, _)] ⟨rfl, rfl, trivial⟩ ?_)
  refine w_ret ?_
  refine ⟨_, _, fun a ha hh => results_mix Tryz.results20 (rm_cell (cell_agg 0 rfl Tryz.underlying46 rfl (by kernel_rfl) rfl) (rm_tmp rfl rm_nil)) a ha _ hh, List.nil_sublist _, ?_⟩
  rfl
theorem tbounds_nil (k : ByteArray) (w : World) : Spec Tryz.prog 12 [.pointer .none, .string k] w Nil fun v H => v = .tuple [bnV 0 0, .bool false].toArray := by
  refine enter (n := 42) Tryz.func12 rfl rfl [(0, _), (1, _)] rfl ⟨rfl, rfl, trivial⟩ (Holds.start _ _) ?_
  refine w_seq (w_reg (wl_e (e_allocs [.int .u64 0, .int .u64 0] (by kernel_rfl)) ?_))
  rintro _ _ w0_0 ⟨b0_0, rfl, rfl⟩
  refine wl_f (f_assign rfl) (wl_end [(0, _), (1, _), (4, _)] ⟨rfl, rfl, rfl, trivial⟩ ?_)
  refine w_seq (w_seq (w_reg (wl_f (f_move rfl) (wl_f (f_eqlnil rfl rfl Tryz.underlying24) ?_))))
  refine wl_end [(0, _), (1, _), (4, _), (11, _)] ⟨rfl, rfl, rfl, rfl, trivial⟩ ?_
  refine w_ift rfl ?_
  refine w_seq (w_reg (wl_f (f_build rfl (fun w => build_bounds0 w)) ?_))
  refine wl_e0 (e_store0 (us := [_, _]) rfl rfl rfl (by kernel_rfl) (by simp [Value.oneCell']) rfl rfl) ?_
  rintro _ _ w2_1 rfl
  refine wl_f (f_assign rfl) (wl_end [(4, _), (5, _)] ⟨rfl, rfl, trivial⟩ ?_)
  refine w_ret ?_
  refine ⟨_, _, fun a ha hh => results_mix Tryz.results12 (rm_cell (cell_agg 0 rfl Tryz.underlying36 rfl (by kernel_rfl) rfl) (rm_tmp rfl rm_nil)) a ha _ hh, List.nil_sublist _, ?_⟩
  rfl
end Go.Proofs.YtmagdjlcckgkpaaGreat

/- The order of a table's entries against the reference's list, plain. -/
namespace Go.Proofs.YtmagdjlcckgkpaaGreat
open Go.RowKit

def cnt (x : En) : Nat := x.2.1 + x.2.2
def insE : List En → En → List En
  | [], x => [x]
  | p :: l, x => if cnt p ≤ cnt x then p :: insE l x else x :: p :: l
def isort (L : List En) : List En := L.foldl insE []
def remE (l : List En) (k : ByteArray) : List En := l.filter fun x => !decide (x.1 = k)
def Asc (l : List En) : Prop := l.Pairwise fun a b => cnt a ≤ cnt b
theorem isort_snoc (L : List En) (x : En) : isort (L ++ [x]) = insE (isort L) x := by rw [isort, List.foldl_append]; rfl
theorem insE_perm (l : List En) (x : En) : (insE l x).Perm (x :: l) := by
  induction l with
  | nil => exact List.Perm.refl _
  | cons p l ih =>
    rw [insE]
    split
    · exact (ih.cons p).trans (List.Perm.swap ..)
    · exact List.Perm.refl _
theorem insE_asc {l : List En} (x : En) (h : Asc l) : Asc (insE l x) := by
  induction l with
  | nil => exact List.pairwise_singleton ..
  | cons p l ih =>
    obtain ⟨h1, h2⟩ := List.pairwise_cons.1 h
    rw [insE]
    split
    · rename_i hc
      refine List.pairwise_cons.2 ⟨fun y hy => ?_, ih h2⟩
      rcases List.mem_cons.1 ((insE_perm l x).mem_iff.1 hy) with rfl | hy
      · exact hc
      · exact h1 y hy
    · rename_i hc
      refine List.pairwise_cons.2 ⟨fun y hy => ?_, h⟩
      rcases List.mem_cons.1 hy with rfl | hy
      · omega
      · have := h1 y hy; omega
theorem foldl_perm : ∀ (L acc : List En), (L.foldl insE acc).Perm (acc ++ L)
  | [], acc => by simp
  | x :: L, acc => by
    rw [List.foldl_cons]
    refine (foldl_perm L _).trans ?_
    refine ((insE_perm acc x).append_right L).trans ?_
    exact List.perm_middle.symm
theorem isort_perm (L : List En) : (isort L).Perm L := (foldl_perm L []).trans (List.Perm.refl _)
theorem snoc_ind {P : List En → Prop} (h0 : P []) (h1 : ∀ L x, P L → P (L ++ [x])) (L : List En) : P L := by
  have : ∀ R : List En, P R.reverse := by
    intro R
    induction R with
    | nil => exact h0
    | cons x R ih => rw [List.reverse_cons]; exact h1 _ _ ih
  have h := this L.reverse
  rwa [List.reverse_reverse] at h
theorem isort_asc (L : List En) : Asc (isort L) := snoc_ind (P := fun L => Asc (isort L)) List.Pairwise.nil (fun L x h => by rw [isort_snoc]; exact insE_asc x h) L
theorem remE_none {l : List En} {k : ByteArray} (h : k ∉ eks l) : remE l k = l := by
  refine List.filter_eq_self.2 fun x hx => ?_
  have : x.1 ≠ k := fun e => h (e ▸ eks_mem hx)
  simp [this]
theorem remE_ins_self {l : List En} {x : En} (h : x.1 ∉ eks l) : remE (insE l x) x.1 = l := by
  induction l with
  | nil => simp [insE, remE]
  | cons p l ih =>
    have h1 : ¬ p.1 = x.1 := fun e => h (by simp [eks, e])
    have h2 : x.1 ∉ eks l := fun e => h (by simp only [eks, List.map_cons, List.mem_cons]; exact .inr e)
    rw [insE]
    split
    · rw [remE, List.filter_cons_of_pos (by simp [h1])]
      exact congrArg _ (ih h2)
    · rw [remE, List.filter_cons_of_neg (by simp)]
      exact remE_none h
theorem insE_front {l : List En} {y : En} (h : ∀ p ∈ l, cnt y < cnt p) : insE l y = y :: l := by
  cases l with
  | nil => rfl
  | cons p l => rw [insE, if_neg (by have := h p (List.mem_cons_self ..); omega)]
theorem remE_ins {l : List En} {k : ByteArray} {y : En} (ha : Asc l) (hy : y.1 ≠ k) : remE (insE l y) k = insE (remE l k) y := by
  induction l with
  | nil => simp [insE, remE, hy]
  | cons p l ih =>
    obtain ⟨h1, h2⟩ := List.pairwise_cons.1 ha
    have ih := ih h2
    rw [insE]
    split
    · rename_i hc
      by_cases hp : p.1 = k
      · rw [remE, List.filter_cons_of_neg (by simp [hp]), remE, List.filter_cons_of_neg (by simp [hp])]
        exact ih
      · rw [remE, List.filter_cons_of_pos (by simp [hp]), remE, List.filter_cons_of_pos (by simp [hp]), insE, if_pos hc]
        exact congrArg _ ih
    · rename_i hc
      rw [insE_front (l := remE (p :: l) k) (fun q hq => ?_)]
      · rw [remE, List.filter_cons_of_pos (by simp [hy])]; rfl
      · have hq := (List.mem_filter.1 hq).1
        rcases List.mem_cons.1 hq with rfl | hq
        · omega
        · have := h1 q hq; omega
/-- Taking one out of the list takes it out of the sorted list. -/
theorem isort_rem {A : List En} {x : En} (hA : x.1 ∉ eks A) (B : List En) : x.1 ∉ eks B → isort (A ++ B) = remE (isort (A ++ x :: B)) x.1 := by
  refine snoc_ind (P := fun B => x.1 ∉ eks B → isort (A ++ B) = remE (isort (A ++ x :: B)) x.1) (fun _ => ?_) (fun B y ih hB => ?_) B
  · rw [isort_snoc, List.append_nil, remE_ins_self]
    exact fun h => hA (((isort_perm A).map Prod.fst).mem_iff.1 h)
  · rw [eks_app] at hB
    have h1 : x.1 ∉ eks B := fun h => hB (List.mem_append_left _ h)
    have h2 : y.1 ≠ x.1 := fun e => hB (List.mem_append_right _ (by simp [eks, e]))
    rw [← List.append_assoc, isort_snoc, ih h1, ← List.cons_append, ← List.append_assoc, isort_snoc, remE_ins (isort_asc _) h2]
/-- The first of the least is the head. -/
theorem isort_least {A : List En} {y : En} (hA : ∀ a ∈ A, cnt y < cnt a) (B : List En) : (∀ b ∈ B, cnt y ≤ cnt b) → isort (A ++ y :: B) = y :: isort (A ++ B) := by
  refine snoc_ind (P := fun B => (∀ b ∈ B, cnt y ≤ cnt b) → isort (A ++ y :: B) = y :: isort (A ++ B)) (fun _ => ?_) (fun B b ih hB => ?_) B
  · rw [isort_snoc, List.append_nil]
    exact insE_front fun p hp => hA p ((isort_perm A).mem_iff.1 hp)
  · rw [← List.cons_append, ← List.append_assoc, isort_snoc, ih (fun c hc => hB c (List.mem_append_left _ hc)), insE, if_pos (hB b (by simp)), ← List.append_assoc, isort_snoc]
def gE (E : List (Option En)) (p : Int × Nat) : Option En × Nat := ((E[p.1.toNat]?).join, p.2)
def hE (x : En) : Option En × Nat := (some x, cnt x)
theorem ins_map {E : List (Option En)} {i c : Nat} {x : En} (hx : gE E ((i : Int), c) = hE x) : ∀ {l : Ord} {S : List En}, l.map (gE E) = S.map hE → (ins l i c).map (gE E) = (insE S x).map hE
  | [], [], _ => by simp [ins, insE, hx]
  | [], _ :: _, h => by simp at h
  | _ :: _, [], h => by simp at h
  | p :: l, y :: S, h => by
    simp only [List.map_cons, List.cons.injEq] at h
    have h1 : p.2 = cnt y := congrArg Prod.snd h.1
    have h2 : c = cnt x := congrArg Prod.snd hx
    rw [ins, insE, h1, h2]
    split
    · rw [List.map_cons, List.map_cons, h.1, ← h2, ins_map hx h.2]
    · rw [List.map_cons, List.map_cons, ← h2, hx, List.map_cons, List.map_cons, h.1, h.2]
theorem gE_set {E : List (Option En)} {i : Nat} {o : Option En} {l : Ord} (h : ∀ p ∈ l, p.1.toNat ≠ i) : l.map (gE (E.set i o)) = l.map (gE E) :=
  List.map_congr_left fun p hp => by
    unfold gE
    rw [List.getElem?_set_ne (fun e => h p hp e.symm)]
theorem gE_some {E : List (Option En)} {p : Int × Nat} {x : En} (h : gE E p = hE x) : E[p.1.toNat]? = some (some x) ∧ p.2 = cnt x := by
  have h1 : (E[p.1.toNat]?).join = some x := congrArg Prod.fst h
  refine ⟨?_, congrArg Prod.snd h⟩
  cases h2 : E[p.1.toNat]? with
  | none => rw [h2] at h1; cases h1
  | some o => rw [h2] at h1; exact congrArg _ h1
theorem gE_mk {E : List (Option En)} {i : Nat} {x : En} (h : E[i]? = some (some x)) : gE E ((i : Int), cnt x) = hE x := by
  unfold gE hE
  rw [show ((i : Int), cnt x).1.toNat = i from Int.toNat_natCast i, h]
  rfl
theorem rem_map {E : List (Option En)} {i : Nat} {x : En} (hx : E[i]? = some (some x)) (huq : ∀ (j : Nat) y, E[j]? = some (some y) → y.1 = x.1 → j = i) : ∀ {l : Ord} {S : List En}, (∀ p ∈ l, 0 ≤ p.1) → l.map (gE E) = S.map hE → (eks S).Nodup → (rem l i).map (gE E) = (remE S x.1).map hE
  | [], [], _, _, _ => rfl
  | [], _ :: _, _, h, _ => by simp at h
  | _ :: _, [], _, h, _ => by simp at h
  | p :: l, y :: S, h0, h, hn => by
    simp only [List.map_cons, List.cons.injEq] at h
    obtain ⟨h1, h2⟩ := gE_some h.1
    have hp0 := h0 p (List.mem_cons_self ..)
    have hn' : y.1 ∉ eks S ∧ (eks S).Nodup := List.nodup_cons.1 hn
    rw [rem]
    split
    · rename_i hpi
      rw [hpi, Int.toNat_natCast, hx] at h1
      injection h1 with h1
      injection h1 with h1
      subst h1
      rw [remE, List.filter_cons_of_neg (by simp)]
      rw [show (S.filter fun z => !decide (z.1 = x.1)) = S from remE_none hn'.1]
      exact h.2
    · rename_i hpi
      have hyx : y.1 ≠ x.1 := fun e => hpi (by have := huq _ y h1 e; omega)
      rw [remE, List.filter_cons_of_pos (by simp [hyx]), List.map_cons, List.map_cons, h.1]
      exact congrArg _ (rem_map hx huq (fun q hq => h0 q (List.mem_cons_of_mem _ hq)) h.2 hn'.2)
end Go.Proofs.YtmagdjlcckgkpaaGreat

/- Saving's tables against the reference, plain. -/
namespace Go.Proofs.YtmagdjlcckgkpaaGreat
open Go.RowKit

structure SFact (m : Nat) (E : List (Option En)) (l : Ord) : Prop where
  len : E.length = m
  nd : (ids l).Nodup
  rng : ∀ p ∈ l, 0 ≤ p.1
  ord : ∀ (i : Nat) (c : Nat), ((i : Int), c) ∈ l ↔ ∃ (k : ByteArray) (o s : Nat), E[i]? = some (some (k, o, s)) ∧ c = o + s
  uq : ∀ (i j : Nat) (x y : En), E[i]? = some (some x) → E[j]? = some (some y) → y.1 = x.1 → j = i
  cnt : l.length = (E.filterMap id).length
  ne : ∀ (i : Nat) (x : En), E[i]? = some (some x) → x.1 ≠ ByteArray.empty
theorem SvR.fact {t m base total : Nat} {E : List (Option En)} {l : Ord} {r : Res} (h : SvR t m E l base total r) : SFact m E l := by
  obtain ⟨L, rfl, hm1, hm2, bR, bX, eV, rR, rX, M, T, rfl, hR, hX, hI⟩ := h
  have hO := hR.inv
  refine ⟨hI.len, hO.nd, fun p hp => (hO.rng p.1 (List.mem_map_of_mem hp)).1, fun i c => hI.ord i c, fun i j x y hi hj e => ?_, hI.cnt hO hX.nd, fun i x hi => (hI.sm i x.1 x.2.1 x.2.2 hi).2⟩
  obtain ⟨k, o, s⟩ := x
  obtain ⟨k', o', s'⟩ := y
  have e : k' = k := e
  subst e
  exact hI.uniq hX.nd hj hi
/-- The entries by the order are the reference's list, sorted by counts. -/
def SRel (E : List (Option En)) (l : Ord) (L : List En) : Prop := l.map (gE E) = (isort L).map hE ∧ (eks L).Nodup
section
variable {m : Nat} {E E' : List (Option En)} {l l' : Ord} {L L' : List En} {k : ByteArray} {i o s : Nat}
theorem hE_inj {x y : En} (h : hE x = hE y) : x = y := by
  have := congrArg Prod.fst h
  simpa [hE] using this
theorem SRel.mem (h : SRel E l L) (hf : SFact m E l) {x : En} : x ∈ L ↔ ∃ i : Nat, E[i]? = some (some x) := by
  constructor
  · intro hx
    have h1 : hE x ∈ l.map (gE E) := by rw [h.1]; exact List.mem_map_of_mem ((isort_perm L).mem_iff.2 hx)
    obtain ⟨p, _, hp⟩ := List.mem_map.1 h1
    exact ⟨_, (gE_some hp).1⟩
  · rintro ⟨i, hi⟩
    have h1 : ((i : Int), Go.Proofs.YtmagdjlcckgkpaaGreat.cnt x) ∈ l := (hf.ord i _).2 ⟨x.1, x.2.1, x.2.2, hi, rfl⟩
    have h2 : hE x ∈ (isort L).map hE := by rw [← h.1, ← gE_mk hi]; exact List.mem_map_of_mem h1
    obtain ⟨z, hz, he⟩ := List.mem_map.1 h2
    rw [hE_inj he] at hz
    exact (isort_perm L).mem_iff.1 hz
theorem SRel.len (h : SRel E l L) : L.length = l.length := by
  have := congrArg List.length h.1
  rw [List.length_map, List.length_map, (isort_perm L).length_eq] at this
  exact this.symm
theorem SRel.hasnt (h : SRel E l L) (hf : SFact m E l) : k ∉ eks L ↔ Hasnt E k := by
  constructor
  · intro hk i o s hi
    exact hk (eks_mem ((h.mem hf).2 ⟨i, hi⟩))
  · intro hk hm
    obtain ⟨x, hx, rfl⟩ := List.mem_map.1 hm
    obtain ⟨i, hi⟩ := (h.mem hf).1 hx
    exact hk i x.2.1 x.2.2 hi
theorem SRel.at {A B : List En} (h : SRel E l L) (hf : SFact m E l) (hi : Has E k i o s) {o' s' : Nat} (he : L = A ++ (k, o', s') :: B) : o' = o ∧ s' = s := by
  obtain ⟨j, hj⟩ := (h.mem hf (x := (k, o', s'))).1 (by rw [he]; simp)
  have := hf.uq i j _ _ hi hj rfl
  subst this
  have hi' : E[j]? = some (some (k, o, s)) := hi
  rw [hi'] at hj
  simp at hj
  exact ⟨hj.1.symm, hj.2.symm⟩
theorem rem_ne {l : Ord} (hn : (ids l).Nodup) {i : Int} {p : Int × Nat} (hp : p ∈ rem l i) : p ∈ l ∧ p.1 ≠ i := (mem_rem_iff hn).1 hp
theorem nd_split {A B : List En} {x : En} (h : (eks (A ++ x :: B)).Nodup) : x.1 ∉ eks A ∧ x.1 ∉ eks B ∧ (eks (A ++ B)).Nodup := by
  rw [eks_app] at h
  obtain ⟨h1, h2, h3⟩ := List.nodup_append.1 h
  have h4 : x.1 ∉ eks B ∧ (eks B).Nodup := List.nodup_cons.1 h2
  refine ⟨fun hx => h3 _ hx _ (by simp [eks]) rfl, h4.1, ?_⟩
  rw [eks_app]
  exact List.nodup_append.2 ⟨h1, h4.2, fun a ha b hb => h3 a ha b (by simp only [eks, List.map_cons, List.mem_cons] at hb ⊢; exact .inr hb)⟩
theorem SRel.del {A B : List En} (h : SRel E l L) (hf : SFact m E l) (hi : Has E k i o s) (he : L = A ++ (k, o, s) :: B) : SRel (E.set i none) (rem l i) (A ++ B) := by
  have hi' : E[i]? = some (some (k, o, s)) := hi
  have hnd := h.2
  rw [he] at hnd
  obtain ⟨h1, h2, h3⟩ := nd_split hnd
  refine ⟨?_, h3⟩
  rw [gE_set (fun p hp e => by
    obtain ⟨hp1, hp2⟩ := rem_ne hf.nd hp
    have := hf.rng p hp1
    exact hp2 (by omega)), isort_rem h1 B h2, ← he]
  refine rem_map hi' (fun j y hj e => hf.uq i j _ y hi' hj e) hf.rng h.1 ?_
  exact ((isort_perm L).map Prod.fst).nodup_iff.2 h.2
theorem SRel.put {n : Nat} {x : En} (h : SRel E l L) (hn : n < E.length) (hl : ∀ p ∈ l, p.1.toNat ≠ n) (hx : x.1 ∉ eks L) : SRel (E.set n (some x)) (ins l n (cnt x)) (L ++ [x]) := by
  refine ⟨?_, ?_⟩
  · rw [isort_snoc]
    refine ins_map (gE_mk (List.getElem?_set_self hn)) ?_
    rw [gE_set hl]
    exact h.1
  · rw [eks_app]
    exact List.nodup_append.2 ⟨h.2, by simp [eks], fun a ha b hb e => hx (by simp [eks] at hb; rw [← hb, ← e]; exact ha)⟩
theorem SRel.least {n c : Nat} {l1 : Ord} {A B : List En} {y : En} (h : SRel E (((n : Int), c) :: l1) L) (he : L = A ++ y :: B) (hA : ∀ a ∈ A, cnt y < cnt a) (hB : ∀ b ∈ B, cnt y ≤ cnt b) :
    E[n]? = some (some y) ∧ c = cnt y ∧ l1.map (gE E) = (isort (A ++ B)).map hE := by
  have h1 := h.1
  rw [he, isort_least hA B hB, List.map_cons, List.map_cons, List.cons.injEq] at h1
  obtain ⟨h2, h3⟩ := gE_some h1.1
  rw [show (((n : Int), c) : Int × Nat).1.toNat = n from Int.toNat_natCast n] at h2
  exact ⟨h2, h3, h1.2⟩
/-- The reference's adding in the mode Saving. -/
def RsAddG (n : Nat) (l : List En) (base sum : Nat) (k : ByteArray) (v : Nat) (e : Int) (l' : List En) (base' sum' : Nat) : Prop :=
  (e ≠ 0 ∧ l' = l ∧ base' = base ∧ sum' = sum ∧ (k = ByteArray.empty ∧ e = 3 ∨ k ≠ ByteArray.empty ∧ v = 0 ∧ e = 1 ∨ k ≠ ByteArray.empty ∧ v ≠ 0 ∧ 9223372036854775808 < sum + v ∧ e = 12)) ∨
  (e = 0 ∧ k ≠ ByteArray.empty ∧ v ≠ 0 ∧ sum + v ≤ 9223372036854775808 ∧ sum' = sum + v ∧ ((∃ A o s B, l = A ++ (k, o, s) :: B ∧ k ∉ eks A ∧ l' = A ++ B ++ [(k, o + v, s)] ∧ base' = base) ∨
    (k ∉ eks l ∧ l.length ≠ n ∧ l' = l ++ [(k, v, base)] ∧ base' = base) ∨
    (k ∉ eks l ∧ l.length = n ∧ ∃ A y B, l = A ++ y :: B ∧ (∀ a ∈ A, cnt y < cnt a) ∧ (∀ b ∈ B, cnt y ≤ cnt b) ∧ base' = cnt y ∧ l' = A ++ B ++ [(k, v, cnt y)])))
theorem slot_free {n : Nat} (hf : SFact m E l) (hn : E[n]? = some none) : ∀ p ∈ l, p.1.toNat ≠ n := fun p hp e => by
  have h1 := hf.rng p hp
  have h2 : ((n : Int), p.2) ∈ l := by rw [← e, Int.toNat_of_nonneg h1]; exact hp
  obtain ⟨k, o, s, h3, _⟩ := (hf.ord n p.2).1 h2
  rw [hn] at h3
  cases h3
theorem SRel.add {base base' rbase' total total' sum' v : Nat} {e e' : Int} (h : SRel E l L) (hf : SFact m E l) (hA : AddG m E base total k v e E' base' total') (hO : AddL m E l base k v e E' l' base') (hR : RsAddG m L base total k v e' L' rbase' sum') :
    e' = e ∧ rbase' = base' ∧ sum' = total' ∧ SRel E' l' L' := by
  rcases hA with ⟨he, rfl, rfl, rfl, hE⟩ | ⟨rfl, hk, hv, ht, rfl, hA⟩
  · rcases hO with ⟨_, rfl⟩ | ⟨he', _⟩
    · rcases hR with ⟨_, rfl, rfl, rfl, hE'⟩ | ⟨_, hk, hv, ht, _⟩
      · refine ⟨?_, rfl, rfl, h⟩
        rcases hE with ⟨h1, rfl⟩ | ⟨h1, h2, rfl⟩ | ⟨h1, h2, h3, rfl⟩ <;> rcases hE' with ⟨h4, rfl⟩ | ⟨h4, h5, rfl⟩ | ⟨h4, h5, h6, rfl⟩ <;> first | rfl | exact absurd h1 h4 | exact absurd h4 h1 | exact absurd h2 h5 | exact absurd h5 h2
      · rcases hE with ⟨h1, _⟩ | ⟨_, h2, _⟩ | ⟨_, _, h3, _⟩
        · exact absurd h1 hk
        · exact absurd h2 hv
        · omega
    · exact absurd he' he
  · rcases hO with ⟨h0, _⟩ | ⟨_, hO⟩
    · exact absurd rfl h0
    · rcases hR with ⟨_, _, _, _, hE'⟩ | ⟨rfl, _, _, _, rfl, hR⟩
      · rcases hE' with ⟨h1, _⟩ | ⟨_, h2, _⟩ | ⟨_, _, h3, _⟩
        · exact absurd h1 hk
        · exact absurd h2 hv
        · omega
      · rcases hO with ⟨i, o, s, hi, rfl, rfl⟩ | ⟨hno, n, E1, l1, hfr, hfl, rfl, rfl⟩
        · have hyes : ¬ Hasnt E k := fun hn => hn i o s hi
          rcases hR with ⟨A, o', s', B, he, hkA, rfl, rfl⟩ | ⟨hn, _⟩ | ⟨hn, _⟩
          · obtain ⟨rfl, rfl⟩ := h.at hf hi he
            have hbase : rbase' = base' := by
              rcases hA with ⟨_, _, _, _, _, hb⟩ | ⟨hn, _⟩
              · exact hb.symm
              · exact absurd hn hyes
            refine ⟨rfl, hbase, rfl, ?_⟩
            have h1 := h.del hf hi he
            have hil : i < E.length := (List.getElem?_eq_some_iff.1 hi).1
            have h2 := h1.put (n := i) (x := (k, o' + v, s')) (by rw [List.length_set]; exact hil) (fun p hp e => by
              obtain ⟨hp1, hp2⟩ := rem_ne hf.nd hp
              have := hf.rng p hp1
              exact hp2 (by omega)) (by
                have hnd := h.2
                rw [he] at hnd
                obtain ⟨h3, h4, _⟩ := nd_split hnd
                rw [eks_app]
                exact fun hm => (List.mem_append.1 hm).elim h3 h4)
            rw [List.set_set] at h2
            exact h2
          · exact absurd ((h.hasnt hf).1 hn) hyes
          · exact absurd ((h.hasnt hf).1 hn) hyes
        · have hkL := (h.hasnt hf).2 hno
          have hbase : ∃ n' E2, FreeG m E base n' E2 base' ∧ E1.set n (some (k, v, base')) = E2.set n' (some (k, v, base')) := by
            rcases hA with ⟨i, o, s, hi, _⟩ | ⟨_, n', E2, h1, h2⟩
            · exact absurd hi (hno i o s)
            · exact ⟨n', E2, h1, h2⟩
          have hcnt := fr_cnt E
          have hlen := h.len
          have hfl' := hf.len
          have hfc := hf.cnt
          have hnm := hfr.1
          rcases hR with ⟨A, o', s', B, he, hkA, rfl, rfl⟩ | ⟨_, hlm, rfl, rfl⟩ | ⟨_, hlm, A, y, B, he, hyA, hyB, rfl, rfl⟩
          · exact absurd (by rw [he, eks_app]; simp [eks]) hkL
          · rcases hfr with ⟨_, hE1n, ⟨rfl, rfl, _⟩ | ⟨hall, _⟩⟩
            · rcases hfl with ⟨_, rfl⟩ | ⟨hall, _⟩
              · refine ⟨rfl, rfl, rfl, ?_⟩
                exact h.put (x := (k, v, base')) (by omega) (slot_free hf hE1n) hkL
              · obtain ⟨x, hx⟩ := hall n hnm
                rw [hE1n] at hx; cases hx
            · have := fr_full (E := E) (fun i hi => hall i (by omega))
              omega
          · rcases hfr with ⟨_, hE1n, ⟨rfl, rfl, _⟩ | ⟨hall, kn, on, sn, hn, rfl, rfl, _⟩⟩
            · exfalso
              have : fr E1 ≠ 0 := by
                obtain ⟨A', B', rfl, _⟩ := split_at hE1n
                simp [fr, efr]
              omega
            · rcases hfl with ⟨hn', _⟩ | ⟨_, c, rfl⟩
              · rw [hn] at hn'; cases hn'
              · obtain ⟨h1, h2, h3⟩ := h.least he hyA hyB
                rw [hn] at h1
                injection h1 with h1
                injection h1 with h1
                subst h1
                refine ⟨rfl, rfl, rfl, ?_⟩
                have hnd := h.2
                rw [he] at hnd
                obtain ⟨h4, h5, h6⟩ := nd_split hnd
                have hnl : ∀ p ∈ l1, p.1.toNat ≠ n := fun p hp e => by
                  have h7 := hf.rng p (List.mem_cons_of_mem _ hp)
                  have h8 : (n : Int) ∉ ids l1 := (List.nodup_cons.1 hf.nd).1
                  exact h8 (by rw [← e, Int.toNat_of_nonneg h7]; exact List.mem_map_of_mem hp)
                have h9 : SRel (E.set n none) l1 (A ++ B) := ⟨by rw [gE_set hnl]; exact h3, h6⟩
                exact h9.put (x := (k, v, on + sn)) (by rw [List.length_set]; omega) hnl (by
                  rw [eks_app]
                  rw [he, eks_app] at hkL
                  exact fun hm => (List.mem_append.1 hm).elim (fun hm => hkL (List.mem_append_left _ hm)) (fun hm => hkL (List.mem_append_right _ (by simp only [eks, List.map_cons, List.mem_cons] at hm ⊢; exact .inr hm))))
theorem SRel.take {base : Nat} {v : Value} (h : SRel E l L) (hf : SFact m E l) (hT : (∃ i o s, Has E k i o s ∧ E' = E.set i none ∧ l' = rem l i ∧ v = .tuple [enV k o s, .bool true].toArray) ∨ (Hasnt E k ∧ E' = E ∧ l' = l)) (hR : RTake L k L') : SRel E' l' L' := by
  rcases hT with ⟨i, o, s, hi, rfl, rfl, _⟩ | ⟨hn, rfl, rfl⟩
  · rcases hR with ⟨hk, _⟩ | ⟨A, x, B, he, hx, _, rfl⟩
    · exact absurd hi ((h.hasnt hf).1 hk i o s)
    · obtain ⟨kx, ox, sx⟩ := x
      have hx : kx = k := hx
      subst hx
      obtain ⟨rfl, rfl⟩ := h.at hf hi he
      exact h.del hf hi he
  · rcases hR with ⟨_, rfl⟩ | ⟨A, x, B, he, hx, _, rfl⟩
    · exact h
    · exact absurd (by rw [he, eks_app, ← hx]; simp [eks]) ((h.hasnt hf).2 hn)
theorem SRel.get {base : Nat} {v : Value} {k' : ByteArray} {o' s' : Nat} {is : Bool} (h : SRel E l L) (hf : SFact m E l) (hG : GetG E k v) (hR : RGet 1 L base k k' o' s' is) : v = .tuple [enV k' o' s', .bool is].toArray := by
  rcases hG with ⟨i, o, s, hi, rfl⟩ | ⟨hn, rfl⟩
  · rcases hR with ⟨_, hk, _⟩ | ⟨rfl, A, s0, B, he, _, rfl, rfl⟩
    · exact absurd hi ((h.hasnt hf).1 hk i o s)
    · obtain ⟨rfl, rfl⟩ := h.at hf hi he
      rfl
  · rcases hR with ⟨rfl, _, rfl, rfl, rfl⟩ | ⟨_, A, s0, B, he, _, _, _⟩
    · rfl
    · exact absurd (by rw [he, eks_app]; simp [eks]) ((h.hasnt hf).2 hn)
end
theorem ents_eq {a b : List En} (ha : Srts (eks a)) (hb : Srts (eks b)) (hp : a.Perm b) : a = b := by
  have h1 : eks a = eks b := srts_unique ha hb (hp.map Prod.fst)
  have hbn : (eks b).Nodup := hb.imp fun h => nlt_ne h
  refine List.ext_getElem? fun i => ?_
  have h2 : (eks a)[i]? = (eks b)[i]? := by rw [h1]
  simp only [eks, List.getElem?_map] at h2
  cases ha' : a[i]? with
  | none =>
    cases hb' : b[i]? with
    | none => rfl
    | some y => rw [ha', hb'] at h2; cases h2
  | some x =>
    cases hb' : b[i]? with
    | none => rw [ha', hb'] at h2; cases h2
    | some y =>
      rw [ha', hb'] at h2
      simp only [Option.map_some, Option.some.injEq] at h2
      have hxb : x ∈ b := hp.mem_iff.1 (List.mem_of_getElem? ha')
      obtain ⟨A, B, hAB⟩ := List.append_of_mem (List.mem_of_getElem? hb')
      obtain ⟨k, x2⟩ := x
      obtain ⟨k', y2⟩ := y
      have h2 : k = k' := h2
      subst h2
      rw [loc_uniq hbn hAB hxb]
theorem SRel.ents {m : Nat} {E : List (Option En)} {l : Ord} {L es es' : List En} {base : Nat} (h : SRel E l L) (hf : SFact m E l) (hE : E.length = m) (h1 : es.Perm (E.filterMap id)) (h2 : Srts (es.map Prod.fst)) (h3 : es'.Perm (L.map (rent 1 base))) (h4 : Srts (eks es')) : es = es' := by
  have e : L.map (rent 1 base) = L := (List.map_congr_left fun x _ => rfl).trans (List.map_id L)
  rw [e] at h3
  refine ents_eq h2 h4 ?_
  have n1 : es.Nodup := List.Pairwise.of_map Prod.fst (fun a b hab e => hab (by rw [e])) (h2.imp fun h => nlt_ne h)
  have n2 : es'.Nodup := List.Pairwise.of_map Prod.fst (fun a b hab e => hab (by rw [e])) (h4.imp fun h => nlt_ne h)
  refine (List.perm_ext_iff_of_nodup n1 n2).2 fun x => ?_
  rw [h1.mem_iff, h3.mem_iff, h.mem hf]
  simp only [List.mem_filterMap, id]
  constructor
  · rintro ⟨o, ho, rfl⟩
    obtain ⟨i, hi⟩ := List.mem_iff_getElem?.1 ho
    exact ⟨i, hi⟩
  · rintro ⟨i, hi⟩
    exact ⟨some x, List.mem_of_getElem? hi, rfl⟩
end Go.Proofs.YtmagdjlcckgkpaaGreat

/- The reference's tables by the method of Misra and Gries: adding, exchanging. -/
namespace Go.Proofs.YtmagdjlcckgkpaaGreat
open Go.RowKit

theorem rfits_spec (a b : Nat) (w : World) : Spec Tryz.prog 42 [.int .u64 (a : Int), .int .u64 (b : Int)] w Nil fun r H => r = .bool (decide (a + b ≤ 9223372036854775808)) ∧ H = [] := by
  refine enter (n := 13) Tryz.func42 rfl rfl [(0, _), (1, _)] rfl ⟨rfl, rfl, trivial⟩ (Holds.start _ _) ?_
  refine w_seq (w_reg (wl_f (f_assign rfl) (wl_end [(0, _), (1, _)] ⟨rfl, rfl, trivial⟩ ?_)))
  refine w_seq (w_reg (wl_f (f_move rfl) (wl_f (f_leq rfl rfl) ?_)))
  refine wl_f (f_move rfl) ?_
  refine wl_and (j := 2) (c := decide ((b : Int) ≤ 9223372036854775808 - (a : Int))) 4 [] trivial rfl rfl rfl rfl rfl (fun hg1_7 => ?_) (fun w1_7 => ?_)
  · skip
    refine wl_gf rfl rfl (f_move rfl) ?_
    refine wl_gf rfl rfl (f_move rfl) ?_
    refine wl_gf rfl rfl (f_subu rfl rfl (by have := of_decide_eq_true hg1_7; omega)) ?_
    refine wl_gf rfl rfl (f_leq rfl rfl) ?_
    exact wl_pend rfl rfl trivial (List.Sublist.refl _)
  refine wl_f (f_assign rfl) (wl_end [(4, _)] ⟨rfl, trivial⟩ ?_)
  refine w_ret ?_
  refine ⟨_, _, fun a ha hh => results_tmps Tryz.results42 rfl a ha _, List.Sublist.refl _, ?_⟩
  refine ⟨congrArg Value.bool ?_, rfl⟩
  rw [← Bool.decide_and, decide_eq_decide]
  omega
def rmin (v : Nat) (l : List En) : Nat := l.foldl (fun d x => min d x.2.1) v
theorem rmin_snoc {v : Nat} {l : List En} {x : En} : rmin v (l ++ [x]) = min (rmin v l) x.2.1 := by simp [rmin]
theorem rmin_le (v : Nat) (l : List En) : rmin v l ≤ v := by
  induction l generalizing v with
  | nil => exact Nat.le_refl _
  | cons x l ih => exact Nat.le_trans (ih (min v x.2.1)) (Nat.min_le_left ..)
theorem rmin_mem {l : List En} {x : En} (v : Nat) (h : x ∈ l) : rmin v l ≤ x.2.1 := by
  induction l generalizing v with
  | nil => cases h
  | cons y l ih =>
    rcases List.mem_cons.1 h with rfl | h
    · exact Nat.le_trans (rmin_le _ l) (Nat.min_le_right ..)
    · exact ih _ h
def red1 (d : Nat) (x : En) : Option En := if x.2.1 - d = 0 then none else some (x.1, x.2.1 - d, x.2.2)
def red (d : Nat) (l : List En) : List En := l.filterMap (red1 d)
theorem red_snoc (d : Nat) (l : List En) (x : En) : red d (l ++ [x]) = red d l ++ (if x.2.1 - d = 0 then [] else [(x.1, x.2.1 - d, x.2.2)]) := by
  rw [red, List.filterMap_append]
  congr 1
  unfold red1
  split <;> rename_i h <;> simp [h]
theorem red_len (d : Nat) (l : List En) : (red d l).length ≤ l.length := List.length_filterMap_le ..
theorem build_entry2 (k : ByteArray) (o : Int) (w : World) : (Instr.build 46 [(0, .string k), (1, .int .u64 o)].toArray).run Tryz.prog w = .ok (.agg [.string k, .int .u64 o, .int .u64 0].toArray) w := by kernel_rfl
def RDed (n : Nat) (l : List En) (base : Nat) (k : ByteArray) (v : Nat) (l' : List En) (base' : Nat) : Prop :=
  (l.length ≠ n ∧ l' = l ++ [(k, v, 0)] ∧ base' = base) ∨ (l.length = n ∧ base' = base + rmin v l ∧ l' = red (rmin v l) l ++ if rmin v l < v then [(k, v - rmin v l, 0)] else [])
set_option maxHeartbeats 8000000 in
theorem rdeduct_spec (q n : Nat) (l : List En) (base sum : Nat) (r : Res) (k : ByteArray) (v : Nat) (w : World) (hn : n ≤ 64) (hl : l.length ≤ n) (hv0 : v ≠ 0) (hb : base + v < 18446744073709551616) (hls : ∀ x ∈ l, x.2.1 < 18446744073709551616) (hr : RtR q 2 n l base sum r) (hs : Holds w r.foot [r] w) :
    Spec Tryz.prog 43 [.pointer (some ⟨q, 0, .none⟩), .string k, .int .u64 (v : Int)] w r.foot fun _ H => ∃ l' base' O, H = rts q 2 n l' O base' sum ∧ RDed n l base k v l' base' := by
  obtain ⟨LV, rfl⟩ := hr
  refine enter (n := 88) Tryz.func43 rfl rfl [(0, _), (1, _), (2, _)] rfl ⟨rfl, rfl, rfl, trivial⟩ hs ?_
  refine w_with fun hh => ?_
  obtain ⟨L, cl, rfl⟩ := rowB_slice hh (i := 0) (j := 1) rfl rfl
  clear hh
  refine w_unb (H := []) (rts q 2 n l (.slice L l.length cl) base sum) ?_
  refine w_seq (w_seq ?_)
  refine w_draw [(0, true), (1, true), (2, true), (3, true), (4, true), (5, true), (6, true), (7, true), (8, true), (9, true)] (_) ([]) mixed (by kernel_rfl) (by kernel_rfl) rfl (perm_all _) (fun w0_ => ?_)
  refine wd_f rfl (f_move rfl) (wd_f rfl (f_nilCheck rfl) (wd_f rfl (f_fieldAddr 2 rfl Tryz.underlying65 rfl rfl (by kernel_rfl)) ?_))
  refine wd_f rfl (f_loadb 0 rfl Tryz.underlying42 rfl rfl rfl) ?_
  refine wd_f rfl (f_len rfl Tryz.underlying42) ?_
  refine wd_f rfl (f_move rfl) (wd_f rfl (f_nilCheck rfl) (wd_f rfl (f_fieldAddr 1 rfl Tryz.underlying65 rfl rfl (by kernel_rfl)) ?_))
  refine wd_f rfl (f_loadb 0 rfl Tryz.underlying3 rfl rfl rfl) ?_
  refine wd_f rfl (f_eql rfl rfl) ?_
  refine wd_end [(0, _), (1, _), (2, _), (21, _)] ⟨rfl, rfl, rfl, rfl, trivial⟩ ?_
  refine w_post (fun m' H w' => ∃ (l1 : List En) (v1 base1 : Nat) (O : Value), m' = [(0, .pointer (some ⟨q, 0, .none⟩)), (1, .string k), (2, .int .u64 (v1 : Int))] ∧ H = rts q 2 n l1 O base1 sum ∧ l1.length ≤ 64 ∧ ((l.length ≠ n ∧ l1 = l ∧ base1 = base ∧ v1 = v) ∨ (l.length = n ∧ base1 = base + rmin v l ∧ v1 = v - rmin v l ∧ l1 = red (rmin v l) l))) ?_ ?_
  · skip
    refine w_ifd rfl (fun hc1 => ?_) (fun hc1 => ?_)
    · skip
      refine w_seq (w_reg (wl_f (f_move rfl) (wl_f (f_assign rfl) (wl_end [(0, _), (1, _), (2, _), (6, _)] ⟨rfl, rfl, rfl, rfl, trivial⟩ ?_))))
      refine w_seq (w_seq (w_reg (wl_f (f_move rfl) (wl_f (f_nilCheck rfl) (wl_f (f_fieldAddr 2 rfl Tryz.underlying65 rfl rfl (by kernel_rfl)) ?_)))))
      refine wl_f (f_loadb 0 rfl Tryz.underlying42 rfl rfl rfl) ?_
      refine wl_f (f_len rfl Tryz.underlying42) ?_
      refine wl_f (f_move rfl) (wl_end [(0, _), (1, _), (2, _), (6, _), (26, _), (27, _), (28, _)] ⟨rfl, rfl, rfl, rfl, rfl, rfl, rfl, trivial⟩ ?_)
      refine w_block ?_
      refine w_loop (fun j m H w => ∃ i : Nat, m = [(0, .pointer (some ⟨q, 0, .none⟩)), (1, .string k), (2, .int .u64 (v : Int)), (6, .int .u64 ((rmin v (l.take i) : Nat) : Int)), (26, .slice L l.length cl), (27, .int .i64 l.length), (28, .int .i64 i)] ∧ H = rts q 2 n l (.slice L l.length cl) base sum ∧ j + i = l.length) l.length ⟨0, rfl, rfl, rfl⟩ ?_
      rintro j _ _ w1 ⟨i, rfl, rfl, hj⟩
      refine w_seq (w_reg (wl_f (f_lss rfl rfl) ?_))
      refine wl_end [(0, _), (1, _), (2, _), (6, _), (26, _), (27, _), (28, _), (29, _)] ⟨rfl, rfl, rfl, rfl, rfl, rfl, rfl, rfl, trivial⟩ ?_
      refine w_seq ?_
      refine w_ifd rfl (fun hc2 => ?_) (fun hc2 => ?_)
      · skip
        have hi : i < l.length := by
          have : (i : Int) < (l.length : Int) := hc2
          omega
        obtain ⟨p, hpi⟩ : ∃ p, l[i]? = some p := ⟨_, List.getElem?_eq_getElem hi⟩
        refine w_with fun hh => ?_
        obtain ⟨g, cap, e⟩ := row_form hh (i := 1) rfl (by omega)
        injection e with e1 _ e3
        subst e1; subst e3
        clear hh
        refine w_skip ?_
        refine w_seq (w_block ?_)
        refine w_seq (w_reg (wl_f (f_indexAddr 3 (i := i) rfl rfl Tryz.underlying42 (by kernel_rfl) rfl hi) ?_))
        refine wl_f (f_loadsr (cs := ecell (some p)) 1 rfl Tryz.underlying46 rfl (by kernel_rfl) rfl (encs_get hpi)) ?_
        refine wl_e (e_allocs [.string ByteArray.empty, .int .u64 0, .int .u64 0] (by kernel_rfl)) ?_
        rintro _ _ w4_2 ⟨b4_2, rfl, rfl⟩
        refine wl_e0 (e_store0 (us := [_, _, _]) rfl rfl rfl (by kernel_rfl) (by simp [Value.oneCell']) rfl rfl) ?_
        rintro _ _ w4_3 rfl
        refine wl_end [(0, _), (1, _), (2, _), (6, _), (8, _), (26, _), (27, _), (28, _)] ⟨rfl, rfl, rfl, rfl, rfl, rfl, rfl, rfl, trivial⟩ ?_
        refine w_reg (wl_f (f_move rfl) (wl_f (f_fieldAddr 1 rfl Tryz.underlying46 rfl rfl (by kernel_rfl)) ?_))
        refine wl_f (f_loadb 0 rfl Tryz.underlying33 rfl rfl rfl) ?_
        refine wl_f (f_min (r := ((rmin v (l.take (i + 1)) : Nat) : Int)) rfl rfl (by rw [take_snoc' hpi, rmin_snoc]; split <;> omega)) ?_
        refine wl_f (f_assign rfl) (wl_pick [1, 1] rfl ?_)
        refine wl_end [(0, _), (1, _), (2, _), (6, _), (26, _), (27, _), (28, _)] ⟨rfl, rfl, rfl, rfl, rfl, rfl, rfl, trivial⟩ ?_
        refine w_reg (wl_f (f_add rfl rfl (by omega)) ?_)
        refine wl_f (f_move rfl) (wl_end [(0, _), (1, _), (2, _), (6, _), (26, _), (27, _), (28, _)] ⟨rfl, rfl, rfl, rfl, rfl, rfl, rfl, trivial⟩ ?_)
        exact ⟨j - 1, by omega, i + 1, rfl, rfl, by omega⟩
      · skip
        have hi : i = l.length := by
          have : ¬ (i : Int) < (l.length : Int) := hc2
          omega
        subst hi
        rw [List.take_length]
        have hdv := rmin_le v l
        obtain ⟨d, hd⟩ : ∃ d, rmin v l = d := ⟨_, rfl⟩
        rw [hd] at hdv ⊢
        refine w_exit0 ?_
        refine w_seq (w_reg (wl_f (f_move rfl) (wl_f (f_nilCheck rfl) (wl_f (f_fieldAddr 3 rfl Tryz.underlying65 rfl rfl (by kernel_rfl)) ?_))))
        refine wl_f (f_loadb 0 rfl Tryz.underlying33 rfl rfl rfl) ?_
        refine wl_f (f_move rfl) (wl_f (f_eqv (v' := .int .u64 ((base + d : Nat) : Int)) (f_addu rfl rfl (by omega)) (by rw [Int.natCast_add])) ?_)
        refine wl_f (f_nilCheck rfl) (wl_f (f_fieldAddr 3 rfl Tryz.underlying65 rfl rfl (by kernel_rfl)) ?_)
        refine wl_e0 (e_store0 (us := [_]) rfl rfl rfl (by kernel_rfl) (by simp [Value.oneCell']) rfl rfl) ?_
        rintro _ _ w7_8 rfl
        refine wl_end [(0, _), (1, _), (2, _), (6, _)] ⟨rfl, rfl, rfl, rfl, trivial⟩ ?_
        refine w_seq (w_reg (wl_f (f_move rfl) (wl_f (f_move rfl) (wl_f (f_eqv (v' := .int .u64 ((v - d : Nat) : Int)) (f_subu rfl rfl (by omega)) (by congr 1; omega)) ?_))))
        refine wl_f (f_assign rfl) (wl_end [(0, _), (1, _), (2, _), (6, _)] ⟨rfl, rfl, rfl, rfl, trivial⟩ ?_)
        refine w_seq (w_reg (wl_f (f_assign rfl) (wl_end [(0, _), (1, _), (2, _), (6, _), (9, _)] ⟨rfl, rfl, rfl, rfl, rfl, trivial⟩ ?_)))
        refine w_seq (w_seq (w_reg (wl_f (f_move rfl) (wl_f (f_nilCheck rfl) (wl_f (f_fieldAddr 2 rfl Tryz.underlying65 rfl rfl (by kernel_rfl)) ?_)))))
        refine wl_f (f_loadb 0 rfl Tryz.underlying42 rfl rfl rfl) ?_
        refine wl_f (f_len rfl Tryz.underlying42) ?_
        refine wl_f (f_move rfl) (wl_end [(0, _), (1, _), (2, _), (6, _), (9, _), (51, _), (52, _), (53, _)] ⟨rfl, rfl, rfl, rfl, rfl, rfl, rfl, rfl, trivial⟩ ?_)
        refine w_block ?_
        refine w_nilrow 46 3 ?_
        refine w_loop (fun j m H w => ∃ (i : Nat) (O : Value), m = [(0, .pointer (some ⟨q, 0, .none⟩)), (1, .string k), (2, .int .u64 ((v - d : Nat) : Int)), (6, .int .u64 (d : Int)), (9, O), (51, .slice L l.length cl), (52, .int .i64 l.length), (53, .int .i64 i)] ∧ H = row O 46 3 (red d (l.take i)).length (encs (red d (l.take i))) :: rts q 2 n l (.slice L l.length cl) (base + d) sum ∧ j + i = l.length) l.length ⟨0, _, rfl, rfl, rfl⟩ ?_
        rintro j _ _ w1 ⟨i, O, rfl, rfl, hj⟩
        refine w_seq (w_reg (wl_f (f_lss rfl rfl) ?_))
        refine wl_end [(0, _), (1, _), (2, _), (6, _), (9, _), (51, _), (52, _), (53, _), (54, _)] ⟨rfl, rfl, rfl, rfl, rfl, rfl, rfl, rfl, rfl, trivial⟩ ?_
        refine w_seq ?_
        refine w_ifd rfl (fun hc3 => ?_) (fun hc3 => ?_)
        · skip
          have hi : i < l.length := by
            have : (i : Int) < (l.length : Int) := hc3
            omega
          obtain ⟨p, hpi⟩ : ∃ p, l[i]? = some p := ⟨_, List.getElem?_eq_getElem hi⟩
          have hpu := hls p (List.mem_of_getElem? hpi)
          have hdp : d ≤ p.2.1 := by rw [← hd]; exact rmin_mem v (List.mem_of_getElem? hpi)
          have hrl : (red d (l.take i)).length ≤ 64 := by
            have := red_len d (l.take i)
            rw [List.length_take] at this
            omega
          refine w_with fun hh => ?_
          obtain ⟨g, cap, e⟩ := row_form hh (i := 2) rfl (by omega)
          injection e with e1 _ e3
          subst e1; subst e3
          clear hh
          refine w_skip ?_
          refine w_seq ?_
          refine w_post (fun m' H w' => ∃ O', m' = [(0, .pointer (some ⟨q, 0, .none⟩)), (1, .string k), (2, .int .u64 ((v - d : Nat) : Int)), (6, .int .u64 (d : Int)), (9, O'), (51, .slice (some ⟨g, 0, .none⟩) l.length cl), (52, .int .i64 l.length), (53, .int .i64 i)] ∧ H = row O' 46 3 (red d (l.take (i + 1))).length (encs (red d (l.take (i + 1)))) :: rts q 2 n l (.slice (some ⟨g, 0, .none⟩) l.length cl) (base + d) sum) ?_ ?_
          · skip
            refine w_block ?_
            refine w_seq (w_reg (wl_f (f_indexAddr 3 (i := i) rfl rfl Tryz.underlying42 (by kernel_rfl) rfl hi) ?_))
            refine wl_f (f_loadsr (cs := ecell (some p)) 2 rfl Tryz.underlying46 rfl (by kernel_rfl) rfl (encs_get hpi)) ?_
            refine wl_e (e_allocs [.string ByteArray.empty, .int .u64 0, .int .u64 0] (by kernel_rfl)) ?_
            rintro _ _ w12_2 ⟨b12_2, rfl, rfl⟩
            refine wl_e0 (e_store0 (us := [_, _, _]) rfl rfl rfl (by kernel_rfl) (by simp [Value.oneCell']) rfl rfl) ?_
            rintro _ _ w12_3 rfl
            refine wl_end [(0, _), (1, _), (2, _), (6, _), (9, _), (11, _), (51, _), (52, _), (53, _)] ⟨rfl, rfl, rfl, rfl, rfl, rfl, rfl, rfl, rfl, trivial⟩ ?_
            refine w_seq (w_reg (wl_f (f_fieldAddr 1 rfl Tryz.underlying46 rfl rfl (by kernel_rfl)) ?_))
            refine wl_f (f_loadb 0 rfl Tryz.underlying33 rfl rfl rfl) ?_
            refine wl_f (f_move rfl) (wl_f (f_eqv (v' := .int .u64 ((p.2.1 - d : Nat) : Int)) (f_subu rfl rfl (by omega)) (by congr 1; omega)) ?_)
            refine wl_f (f_fieldAddr 1 rfl Tryz.underlying46 rfl rfl (by kernel_rfl)) ?_
            refine wl_e0 (e_store0 (us := [_]) rfl rfl rfl (by kernel_rfl) (by simp [Value.oneCell']) rfl rfl) ?_
            rintro _ _ w13_5 rfl
            refine wl_end [(0, _), (1, _), (2, _), (6, _), (9, _), (11, _), (51, _), (52, _), (53, _)] ⟨rfl, rfl, rfl, rfl, rfl, rfl, rfl, rfl, rfl, trivial⟩ ?_
            refine w_seq (w_reg (wl_f (f_fieldAddr 1 rfl Tryz.underlying46 rfl rfl (by kernel_rfl)) ?_))
            refine wl_f (f_loadb 0 rfl Tryz.underlying33 rfl rfl rfl) ?_
            refine wl_f (f_gtr rfl rfl) ?_
            refine wl_end [(0, _), (1, _), (2, _), (6, _), (9, _), (11, _), (51, _), (52, _), (53, _), (64, _)] ⟨rfl, rfl, rfl, rfl, rfl, rfl, rfl, rfl, rfl, rfl, trivial⟩ ?_
            refine w_ifd rfl (fun hc4 => ?_) (fun hc4 => ?_)
            · skip
              have hpd : ¬ p.2.1 - d = 0 := by
                have : (0 : Int) < ((p.2.1 - d : Nat) : Int) := hc4
                omega
              refine w_reg (wl_f (f_move rfl) (wl_f (f_loadsb (cs := [_, _, _]) 0 rfl Tryz.underlying46 rfl (by kernel_rfl) rfl rfl) ?_))
              refine wl_e (e_lit1 (cs := [_, _, _]) t42 rfl rfl rfl (by omega)) ?_
              rintro _ _ w15_2 ⟨b15_2, rfl, rfl⟩
              refine wl_e (e_appN 2 t42 rfl rfl rfl (fun w hh => Rd.held0 hh (i := 0) rfl) (by simp [Value.oneCell']) (by omega) (by omega)) ?_
              rintro v2 _ w5 ⟨_, rfl⟩
              refine wl_f (f_assign rfl) (wl_pick [2, 2, 2] rfl ?_)
              refine wl_end [(0, _), (1, _), (2, _), (6, _), (9, _), (51, _), (52, _), (53, _)] ⟨rfl, rfl, rfl, rfl, rfl, rfl, rfl, rfl, trivial⟩ ?_
              refine ⟨v2, rfl, ?_⟩
              rw [take_snoc' hpi, red_snoc, if_neg hpd, encs_snoc, List.length_append]
              rfl
            · skip
              have hpd : p.2.1 - d = 0 := by
                have : ¬ (0 : Int) < ((p.2.1 - d : Nat) : Int) := hc4
                omega
              refine w_pick [1, 1, 1] rfl ?_
              refine w_sub [(0, _), (1, _), (2, _), (6, _), (9, _), (51, _), (52, _), (53, _)] ⟨rfl, rfl, rfl, rfl, rfl, rfl, rfl, rfl, trivial⟩ (w_skip ?_)
              refine ⟨O, rfl, ?_⟩
              rw [take_snoc' hpi, red_snoc, if_pos hpd, List.append_nil]
              rfl
          · rintro _ _ w9 ⟨O', rfl, rfl⟩
            refine w_reg (wl_f (f_add rfl rfl (by omega)) ?_)
            refine wl_f (f_move rfl) (wl_end [(0, _), (1, _), (2, _), (6, _), (9, _), (51, _), (52, _), (53, _)] ⟨rfl, rfl, rfl, rfl, rfl, rfl, rfl, rfl, trivial⟩ ?_)
            exact ⟨j - 1, by omega, i + 1, O', rfl, rfl, by omega⟩
        · skip
          have hi : i = l.length := by
            have : ¬ (i : Int) < (l.length : Int) := hc3
            omega
          subst hi
          rw [List.take_length]
          have hrl := red_len d l
          refine w_with fun hh => ?_
          obtain ⟨O1, o1, rfl⟩ := row_slice hh (i := 0) rfl
          clear hh
          refine w_exit0 ?_
          refine w_reg (wl_f (f_move rfl) (wl_f (f_move rfl) (wl_f (f_nilCheck rfl) (wl_f (f_fieldAddr 2 rfl Tryz.underlying65 rfl rfl (by kernel_rfl)) ?_))))
          refine wl_e0 (e_store1 (us := [_]) rfl rfl rfl (by kernel_rfl) (by simp [Value.oneCell']) rfl rfl) ?_
          rintro _ _ w17_4 rfl
          refine wl_pick [1, 0] rfl ?_
          refine wl_end [(0, _), (1, _), (2, _)] ⟨rfl, rfl, rfl, trivial⟩ ?_
          subst hd
          exact ⟨_, _, _, _, rfl, rfl, by omega, .inr ⟨by omega, rfl, rfl, rfl⟩⟩
    · skip
      refine w_sub [(0, _), (1, _), (2, _)] ⟨rfl, rfl, rfl, trivial⟩ (w_skip ?_)
      exact ⟨l, v, base, _, rfl, rfl, by omega, .inl ⟨fun h => hc1 (by rw [h]), rfl, rfl, rfl⟩⟩
  · rintro _ _ w9 ⟨l1, v1, base1, O, rfl, rfl, hl1, hD⟩
    refine w_seq (w_reg (wl_f (f_move rfl) (wl_f (f_gtr rfl rfl) ?_)))
    refine wl_end [(0, _), (1, _), (2, _), (75, _)] ⟨rfl, rfl, rfl, rfl, trivial⟩ ?_
    refine w_ifd rfl (fun hc5 => ?_) (fun hc5 => ?_)
    · skip
      have hv1 : 0 < v1 := by
        have : (0 : Int) < (v1 : Int) := hc5
        omega
      refine w_reg (wl_f (f_move rfl) (wl_f (f_move rfl) (wl_f (f_nilCheck rfl) (wl_f (f_fieldAddr 2 rfl Tryz.underlying65 rfl rfl (by kernel_rfl)) ?_))))
      refine wl_f (f_loadb 0 rfl Tryz.underlying42 rfl rfl rfl) ?_
      refine wl_f (f_move rfl) (wl_f (f_move rfl) (wl_f (f_build rfl (fun w => build_entry2 _ _ w)) ?_))
      refine wl_e (e_lit1 (cs := [_, _, _]) t42 rfl rfl rfl (by omega)) ?_
      rintro _ _ w19_8 ⟨b19_8, rfl, rfl⟩
      refine wl_e (e_appN 2 t42 rfl rfl rfl (fun w hh => Rd.held0 hh (i := 0) rfl) (by simp [Value.oneCell']) (by omega) (by omega)) ?_
      rintro _ _ w5 ⟨⟨U2, u2, rfl⟩, rfl⟩
      refine wl_f (f_nilCheck rfl) (wl_f (f_fieldAddr 2 rfl Tryz.underlying65 rfl rfl (by kernel_rfl)) ?_)
      refine wl_e0 (e_store1 (us := [_]) rfl rfl rfl (by kernel_rfl) (by simp [Value.oneCell']) rfl rfl) ?_
      rintro _ _ w19_12 rfl
      refine wl_pick [1, 1] rfl ?_
      refine wl_end [] trivial ?_
      refine ⟨_, _, fun a ha hh => results_tmps (l := []) Tryz.results43 rfl a ha _, List.Sublist.refl _, ?_⟩
      refine ⟨l1 ++ [(k, v1, 0)], base1, .slice U2 (l1.length + 1) u2, ?_, ?_⟩
      · rw [rts, encs_snoc, List.length_append]
        rfl
      · rcases hD with ⟨h1, rfl, rfl, rfl⟩ | ⟨h1, rfl, rfl, rfl⟩
        · exact .inl ⟨h1, rfl, rfl⟩
        · exact .inr ⟨h1, rfl, by rw [if_pos (by omega)]⟩
    · skip
      have hv1 : v1 = 0 := by
        have : ¬ (0 : Int) < (v1 : Int) := hc5
        omega
      refine w_skip ?_
      refine ⟨_, _, fun a ha hh => results_tmps (l := []) Tryz.results43 rfl a ha _, List.Sublist.refl _, ?_⟩
      refine ⟨l1, base1, O, rfl, ?_⟩
      rcases hD with ⟨h1, rfl, rfl, rfl⟩ | ⟨h1, rfl, rfl, rfl⟩
      · exact absurd hv1 hv0
      · exact .inr ⟨h1, rfl, by rw [if_neg (by omega), List.append_nil]⟩
end Go.Proofs.YtmagdjlcckgkpaaGreat

/- The reference's tables by the method of Misra and Gries: adding. -/
namespace Go.Proofs.YtmagdjlcckgkpaaGreat
open Go.RowKit

def RErr (sum : Nat) (k : ByteArray) (v : Nat) (e : Int) : Prop := k = ByteArray.empty ∧ e = 3 ∨ k ≠ ByteArray.empty ∧ v = 0 ∧ e = 1 ∨ k ≠ ByteArray.empty ∧ v ≠ 0 ∧ 9223372036854775808 < sum + v ∧ e = 12
/-- What adding to a tracked key leaves. -/
def RMore (l : List En) (k : ByteArray) (v : Nat) (l' : List En) : Prop := ∃ A o s B, l = A ++ (k, o, s) :: B ∧ k ∉ eks A ∧ l' = A ++ B ++ [(k, o + v, s)]
def RAddG (n : Nat) (l : List En) (base sum : Nat) (k : ByteArray) (v : Nat) (e : Int) (l' : List En) (base' sum' : Nat) : Prop :=
  (e ≠ 0 ∧ l' = l ∧ base' = base ∧ sum' = sum ∧ RErr sum k v e) ∨
  (e = 0 ∧ k ≠ ByteArray.empty ∧ v ≠ 0 ∧ sum + v ≤ 9223372036854775808 ∧ sum' = sum + v ∧ ((RMore l k v l' ∧ base' = base) ∨ (k ∉ eks l ∧ RDed n l base k v l' base')))
set_option maxHeartbeats 8000000 in
theorem rfadd_spec (q n : Nat) (l : List En) (base sum : Nat) (r : Res) (k : ByteArray) (v : Nat) (w : World) (hn : n ≤ 64) (hl : l.length ≤ n) (hb : base ≤ sum) (hsm : sum ≤ 9223372036854775808) (hls : ∀ x ∈ l, x.2.1 ≤ sum) (hr : RtR q 2 n l base sum r) (hs : Holds w r.foot [r] w) :
    Spec Tryz.prog 28 [.pointer (some ⟨q, 0, .none⟩), .string k, .int .u64 (v : Int)] w r.foot fun u H => ∃ (e : Int) (l' : List En) (base' sum' : Nat) (r' : Res), u = .int .i64 e ∧ H = [r'] ∧ RtR q 2 n l' base' sum' r' ∧ RAddG n l base sum k v e l' base' sum' := by
  obtain ⟨LV, rfl⟩ := hr
  refine enter (n := 162) Tryz.func28 rfl rfl [(0, _), (1, _), (2, _)] rfl ⟨rfl, rfl, rfl, trivial⟩ hs ?_
  refine w_with fun hh => ?_
  obtain ⟨L, cl, rfl⟩ := rowB_slice hh (i := 0) (j := 1) rfl rfl
  clear hh
  refine w_unb (H := []) (rts q 2 n l (.slice L l.length cl) base sum) ?_
  refine w_seq (w_reg (wl_f (f_assign rfl) (wl_end [(0, _), (1, _), (2, _)] ⟨rfl, rfl, rfl, trivial⟩ ?_)))
  refine w_seq (w_seq (w_reg (wl_f (f_move rfl) (wl_f (f_eqls rfl rfl) ?_))))
  refine wl_end [(0, _), (1, _), (2, _), (13, _)] ⟨rfl, rfl, rfl, rfl, trivial⟩ ?_
  refine w_ifd rfl (fun hc1 => ?_) (fun hc1 => ?_)
  · skip
    have hk : k = ByteArray.empty := hc1
    refine w_seq (w_reg (wl_f (f_assign rfl) (wl_end [(6, _)] ⟨rfl, trivial⟩ ?_)))
    refine w_bun (H := []) [_, _] ?_
    refine w_ret ?_
    refine ⟨_, _, fun a ha hh => results_tmps Tryz.results28 rfl a ha _, List.Sublist.refl _, ?_⟩
    exact ⟨3, l, base, sum, _, rfl, rfl, ⟨_, rfl⟩, .inl ⟨by decide, rfl, rfl, rfl, .inl ⟨hk, rfl⟩⟩⟩
  · skip
    have hk : k ≠ ByteArray.empty := hc1
    refine w_skip ?_
    refine w_seq (w_seq (w_reg (wl_f (f_move rfl) (wl_f (f_eql rfl rfl) ?_))))
    refine wl_end [(0, _), (1, _), (2, _), (15, _)] ⟨rfl, rfl, rfl, rfl, trivial⟩ ?_
    refine w_ifd rfl (fun hc2 => ?_) (fun hc2 => ?_)
    · skip
      have hv0 : v = 0 := by
        have : (v : Int) = 0 := hc2
        omega
      refine w_seq (w_reg (wl_f (f_assign rfl) (wl_end [(6, _)] ⟨rfl, trivial⟩ ?_)))
      refine w_bun (H := []) [_, _] ?_
      refine w_ret ?_
      refine ⟨_, _, fun a ha hh => results_tmps Tryz.results28 rfl a ha _, List.Sublist.refl _, ?_⟩
      exact ⟨1, l, base, sum, _, rfl, rfl, ⟨_, rfl⟩, .inl ⟨by decide, rfl, rfl, rfl, .inr (.inl ⟨hk, hv0, rfl⟩)⟩⟩
    · skip
      have hv0 : v ≠ 0 := fun h => hc2 (by rw [h]; rfl)
      refine w_skip ?_
      refine w_seq (w_seq (w_reg (wl_f (f_move rfl) (wl_f (f_nilCheck rfl) (wl_f (f_fieldAddr 4 rfl Tryz.underlying65 rfl rfl (by kernel_rfl)) ?_)))))
      refine wl_f (f_loadb 0 rfl Tryz.underlying33 rfl rfl rfl) ?_
      refine wl_f (f_move rfl) (wl_e (e_call0 rfl Tryz.func42 (by kernel_rfl) (fun w hh => rfits_spec sum v w)) ?_)
      rintro _ _ w1 ⟨_, rfl, rfl, rfl⟩
      refine wl_f (f_not rfl rfl) ?_
      refine wl_end [(0, _), (1, _), (2, _), (22, _)] ⟨rfl, rfl, rfl, rfl, trivial⟩ ?_
      refine w_ifb rfl (fun hc3 => ?_) (fun hc3 => ?_)
      · skip
        have hov : 9223372036854775808 < sum + v := by
          refine Classical.byContradiction fun h => ?_
          rw [decide_eq_true (show sum + v ≤ 9223372036854775808 by omega)] at hc3
          cases hc3
        refine w_seq (w_reg (wl_f (f_assign rfl) (wl_end [(6, _)] ⟨rfl, trivial⟩ ?_)))
        refine w_bun (H := []) [_, _] ?_
        refine w_ret ?_
        refine ⟨_, _, fun a ha hh => results_tmps Tryz.results28 rfl a ha _, List.Sublist.refl _, ?_⟩
        exact ⟨12, l, base, sum, _, rfl, rfl, ⟨_, rfl⟩, .inl ⟨by decide, rfl, rfl, rfl, .inr (.inr ⟨hk, hv0, hov, rfl⟩)⟩⟩
      · skip
        have hov : sum + v ≤ 9223372036854775808 := by
          refine Classical.byContradiction fun h => hc3 ?_
          rw [decide_eq_false h]
          rfl
        refine w_skip ?_
        refine w_seq (w_reg (wl_f (f_move rfl) (wl_f (f_nilCheck rfl) (wl_f (f_fieldAddr 4 rfl Tryz.underlying65 rfl rfl (by kernel_rfl)) ?_))))
        refine wl_f (f_loadb 0 rfl Tryz.underlying33 rfl rfl rfl) ?_
        refine wl_f (f_move rfl) (wl_f (f_eqv (v' := .int .u64 ((sum + v : Nat) : Int)) (f_addu rfl rfl (by omega)) (by rw [Int.natCast_add])) ?_)
        refine wl_f (f_nilCheck rfl) (wl_f (f_fieldAddr 4 rfl Tryz.underlying65 rfl rfl (by kernel_rfl)) ?_)
        refine wl_e0 (e_store0 (us := [_]) rfl rfl rfl (by kernel_rfl) (by simp [Value.oneCell']) rfl rfl) ?_
        rintro _ _ w7_8 rfl
        refine wl_end [(0, _), (1, _), (2, _)] ⟨rfl, rfl, rfl, trivial⟩ ?_
        refine w_seq (w_seq (w_reg (wl_f (f_move rfl) (wl_f (f_nilCheck rfl) (wl_f (f_fieldAddr 2 rfl Tryz.underlying65 rfl rfl (by kernel_rfl)) ?_)))))
        refine wl_f (f_loadb 0 rfl Tryz.underlying42 rfl rfl rfl) ?_
        refine wl_f (f_move rfl) (wl_e (e_call0 rfl Tryz.func40 (by kernel_rfl) (fun w hh => rplace_spec _ l k w (Rd.held0 hh (i := 1) rfl) (by omega))) ?_)
        rintro _ _ w2 ⟨_, rfl, rfl, y, rfl, hy⟩
        refine wl_f (f_assign rfl) (wl_end [(0, _), (1, _), (2, _), (7, _)] ⟨rfl, rfl, rfl, rfl, trivial⟩ ?_)
        refine w_seq (w_reg (wl_f (f_move rfl) (wl_f (f_geq rfl rfl) ?_)))
        refine wl_end [(0, _), (1, _), (2, _), (7, _), (38, _)] ⟨rfl, rfl, rfl, rfl, rfl, trivial⟩ ?_
        refine w_ifd rfl (fun hc4 => ?_) (fun hc4 => ?_)
        · skip
          obtain ⟨A, o, s, B, rfl, hA, rfl⟩ := rplE_at hy (by omega)
          have hAl : A.length < (A ++ (k, o, s) :: B).length := by simp
          have hAB : (A ++ B).length ≤ 64 := by
            simp only [List.length_append, List.length_cons] at hl ⊢
            omega
          have hos := hls (k, o, s) (by simp)
          have hos' : o ≤ sum := hos
          refine w_with fun hh => ?_
          obtain ⟨g, cap, e⟩ := row_form hh (i := 1) rfl (by omega)
          injection e with e1 _ e3
          subst e1; subst e3
          clear hh
          refine w_seq (w_reg (wl_f (f_move rfl) (wl_f (f_nilCheck rfl) (wl_f (f_fieldAddr 2 rfl Tryz.underlying65 rfl rfl (by kernel_rfl)) ?_))))
          refine wl_f (f_loadb 0 rfl Tryz.underlying42 rfl rfl rfl) ?_
          refine wl_f (f_move rfl) (wl_f (f_indexAddr 3 (i := A.length) rfl rfl Tryz.underlying42 (by kernel_rfl) rfl hAl) ?_)
          refine wl_f (f_loadsr (cs := ecell (some (k, o, s))) 1 rfl Tryz.underlying46 rfl (by kernel_rfl) rfl (encs_get encs_loc)) ?_
          refine wl_e (e_allocs [.string ByteArray.empty, .int .u64 0, .int .u64 0] (by kernel_rfl)) ?_
          rintro _ _ w10_7 ⟨b10_7, rfl, rfl⟩
          refine wl_e0 (e_store0 (us := [_, _, _]) rfl rfl rfl (by kernel_rfl) (by simp [Value.oneCell']) rfl rfl) ?_
          rintro _ _ w10_8 rfl
          refine wl_end [(0, _), (2, _), (7, _), (8, _)] ⟨rfl, rfl, rfl, rfl, trivial⟩ ?_
          refine w_seq (w_reg (wl_f (f_fieldAddr 1 rfl Tryz.underlying46 rfl rfl (by kernel_rfl)) ?_))
          refine wl_f (f_loadb 0 rfl Tryz.underlying33 rfl rfl rfl) ?_
          refine wl_f (f_move rfl) (wl_f (f_eqv (v' := .int .u64 ((o + v : Nat) : Int)) (f_addu rfl rfl (by omega)) (by rw [Int.natCast_add])) ?_)
          refine wl_f (f_fieldAddr 1 rfl Tryz.underlying46 rfl rfl (by kernel_rfl)) ?_
          refine wl_e0 (e_store0 (us := [_]) rfl rfl rfl (by kernel_rfl) (by simp [Value.oneCell']) rfl rfl) ?_
          rintro _ _ w11_5 rfl
          refine wl_end [(0, _), (7, _), (8, _)] ⟨rfl, rfl, rfl, trivial⟩ ?_
          refine w_seq ?_
          refine w_post (fun m H w' => ∃ (U : Value), m = [] ∧ H = rts q 2 n (A ++ B ++ [(k, o + v, s)]) U base (sum + v)) ?_ ?_
          · skip
            refine w_drawx (.fl 0 (.fl 1 (.fl 2 (.fl 3 (.fl 4 (.fl 5 (.fl 7 (.two 6 (.ef 8 (.ef 9 (.fl 10 (.fl 11 (.ef 12 .done))))) 8 (.ef 6 (.ef 9 (.fl 10 (.fl 11 (.ef 12 .done))))))))))))) ([(_, none), (_, some 12), (_, none)]) ([]) mixed (by kernel_rfl) (by kernel_rfl) rfl rfl (List.Perm.refl _) (fun w12_ => ?_)
            refine wx_f rfl (f_move rfl) (wx_f rfl (f_move rfl) (wx_f rfl (f_nilCheck rfl) (wx_f rfl (f_fieldAddr 2 rfl Tryz.underlying65 rfl rfl (by kernel_rfl)) ?_)))
            refine wx_f rfl (f_loadb 1 rfl Tryz.underlying42 rfl rfl rfl) ?_
            refine wx_f rfl (f_move rfl) (wx_f rfl (f_loadsb (cs := [_, _, _]) 0 rfl Tryz.underlying46 rfl (by kernel_rfl) rfl rfl) ?_)
            refine wx_two ?_ ?_
            · skip
              refine ks_e rfl (e_call0 rfl Tryz.func39 (by kernel_rfl) (fun w hh => rwithout_spec _ _ A B (k, o, s) w (Rd.held0 hh (i := 2) rfl) (by omega))) ?_
              rintro _ _ w12_6 ⟨_, rfl, U1, a1, rfl, rfl⟩
              refine ⟨_, List.perm_append_comm_assoc _ _ _, ?_⟩
              refine wx_ef ?_
              refine ks_e rfl (e_lit1 (cs := [_, _, _]) t42 rfl rfl rfl (by omega)) ?_
              rintro _ _ w12_8 ⟨b12_8, rfl, rfl⟩
              refine ⟨_, List.perm_middle.symm, ?_⟩
              refine wx_ef ?_
              refine ks_e rfl (e_appN 4 t42 rfl rfl rfl (fun w hh => Rd.held0 hh (i := 3) rfl) (by simp [Value.oneCell']) (by omega) (by omega)) ?_
              rintro _ _ w12_9 ⟨⟨U2, a2, rfl⟩, rfl⟩
              refine ⟨_, List.Perm.refl _, ?_⟩
              refine wx_f rfl (f_nilCheck rfl) (wx_f rfl (f_fieldAddr 2 rfl Tryz.underlying65 rfl rfl (by kernel_rfl)) ?_)
              refine wx_ef ?_
              refine ks_e0 rfl (e_storeN 1 (us := [_]) rfl rfl rfl rfl (by kernel_rfl) (by simp [Value.oneCell']) rfl rfl) ?_
              rintro _ _ w12_12 rfl
              refine ⟨_, pick_perm [0, 1] _ rfl, ?_⟩
              refine wx_endp [] [2, 3] trivial rfl ?_
              refine ⟨.slice U2 ((A ++ B).length + 1) a2, rfl, ?_⟩
              rw [rts, encs_snoc, List.length_append (bs := [(k, o + v, s)])]
              rfl
            · skip
              refine ks_e rfl (e_lit1 (cs := [_, _, _]) t42 rfl rfl rfl (by omega)) ?_
              rintro _ _ w12_8 ⟨b12_8, rfl, rfl⟩
              refine ⟨_, List.perm_middle.symm, ?_⟩
              refine wx_ef ?_
              refine ks_e rfl (e_call0 rfl Tryz.func39 (by kernel_rfl) (fun w hh => rwithout_spec _ _ A B (k, o, s) w (Rd.held0 hh (i := 2) rfl) (by omega))) ?_
              rintro _ _ w12_6 ⟨_, rfl, U1, a1, rfl, rfl⟩
              refine ⟨_, List.perm_append_comm_assoc _ _ _, ?_⟩
              refine wx_ef ?_
              refine ks_e rfl (e_appN 3 t42 rfl rfl rfl (fun w hh => Rd.held0 hh (i := 4) rfl) (by simp [Value.oneCell']) (by omega) (by omega)) ?_
              rintro _ _ w12_9 ⟨⟨U2, a2, rfl⟩, rfl⟩
              refine ⟨_, List.Perm.refl _, ?_⟩
              refine wx_f rfl (f_nilCheck rfl) (wx_f rfl (f_fieldAddr 2 rfl Tryz.underlying65 rfl rfl (by kernel_rfl)) ?_)
              refine wx_ef ?_
              refine ks_e0 rfl (e_storeN 1 (us := [_]) rfl rfl rfl rfl (by kernel_rfl) (by simp [Value.oneCell']) rfl rfl) ?_
              rintro _ _ w12_12 rfl
              refine ⟨_, pick_perm [0, 1] _ rfl, ?_⟩
              refine wx_endp [] [2, 2] trivial rfl ?_
              refine ⟨.slice U2 ((A ++ B).length + 1) a2, rfl, ?_⟩
              rw [rts, encs_snoc, List.length_append (bs := [(k, o + v, s)])]
              rfl
          rintro _ _ w12_ ⟨U, rfl, rfl⟩
          refine w_seq (w_reg (wl_f (f_assign rfl) (wl_end [(6, _)] ⟨rfl, trivial⟩ ?_)))
          refine w_bun (H := []) [_, _] ?_
          refine w_ret ?_
          refine ⟨_, _, fun a ha hh => results_tmps Tryz.results28 rfl a ha _, List.Sublist.refl _, ?_⟩
          exact ⟨0, _, base, sum + v, _, rfl, rfl, ⟨U, rfl⟩, .inr ⟨rfl, hk, hv0, hov, rfl, .inl ⟨⟨A, o, s, B, rfl, hA, rfl⟩, rfl⟩⟩⟩
        · skip
          have hno := rplE_no hy (by omega)
          refine w_skip ?_
          refine w_seq (w_seq (w_reg (wl_f (f_move rfl) (wl_f (f_nilCheck rfl) (wl_f (f_fieldAddr 0 rfl Tryz.underlying65 rfl rfl (by kernel_rfl)) ?_)))))
          refine wl_f (f_loadb 0 rfl Tryz.underlying3 rfl rfl rfl) ?_
          refine wl_f (f_eql rfl rfl) ?_
          refine wl_end [(0, _), (1, _), (2, _), (67, _)] ⟨rfl, rfl, rfl, rfl, trivial⟩ ?_
          refine w_ifd rfl (fun _ => ?_) (fun h => absurd rfl h)
          refine w_seq (w_reg (wl_f (f_move rfl) (wl_f (f_move rfl) (wl_f (f_move rfl) (wl_bun (H := []) [_, _] ?_)))))
          refine wl_e (e_call1 _ [] rfl Tryz.func43 (by kernel_rfl) (List.Perm.refl _) (fun w hh hs' => rdeduct_spec q n l base (sum + v) _ k v w hn hl hv0 (by omega) (fun x hx => by have := hls x hx; omega) ⟨_, rfl⟩ hs')) ?_
          rintro _ _ w3 ⟨_, rfl, l', base', O, rfl, hD⟩
          refine wl_end [] trivial ?_
          refine w_seq (w_reg (wl_f (f_assign rfl) (wl_end [(6, _)] ⟨rfl, trivial⟩ ?_)))
          refine w_bun (H := []) [_, _] ?_
          refine w_ret ?_
          refine ⟨_, _, fun a ha hh => results_tmps Tryz.results28 rfl a ha _, List.Sublist.refl _, ?_⟩
          exact ⟨0, l', base', sum + v, _, rfl, rfl, ⟨O, rfl⟩, .inr ⟨rfl, hk, hv0, hov, rfl, .inr ⟨hno, hD⟩⟩⟩
end Go.Proofs.YtmagdjlcckgkpaaGreat

/- The reference's tables by the method of Misra and Gries: exchanging. -/
namespace Go.Proofs.YtmagdjlcckgkpaaGreat
open Go.RowKit

def RAt (l : List En) (k : ByteArray) (o s : Nat) (A B : List En) : Prop := l = A ++ (k, o, s) :: B ∧ k ∉ eks A
def RSwapG (l : List En) (base : Nat) (k x : ByteArray) (xo xs : Nat) (v : Value) (l' : List En) : Prop :=
  (∃ e : Int, v = .tuple [enZ, .int .i64 e].toArray ∧ l' = l ∧ (k ∉ eks l ∧ e = 8 ∨ ∃ o s A B, RAt l k o s A B ∧ (x = ByteArray.empty ∧ e = 3 ∨ x ≠ ByteArray.empty ∧ (x ∈ eks l ∧ e = 10 ∨ x ∉ eks l ∧ (xo = 0 ∨ o < xo ∨ base < xs) ∧ e = 1)))) ∨
  (∃ o s A B, RAt l k o s A B ∧ x ≠ ByteArray.empty ∧ x ∉ eks l ∧ ¬ (xo = 0 ∨ o < xo ∨ base < xs) ∧ v = .tuple [enV k o base, .int .i64 0].toArray ∧ l' = A ++ B ++ [(x, xo, 0)])
theorem rplE_in {l : List En} {k : ByteArray} {y : Int} (h : rplE l k y) (hy : ¬ y < 0) : k ∈ eks l := by
  obtain ⟨A, o, s, B, rfl, _⟩ := rplE_at h hy
  rw [eks_app]; simp [eks]
set_option maxHeartbeats 8000000 in
theorem rfswap_spec (q n : Nat) (l : List En) (base sum : Nat) (r : Res) (k x : ByteArray) (xo xs : Nat) (w : World) (hl : l.length ≤ 64) (hr : RtR q 2 n l base sum r) (hs : Holds w r.foot [r] w) :
    Spec Tryz.prog 27 [.pointer (some ⟨q, 0, .none⟩), .string k, .agg #[.string x, .int .u64 (xo : Int), .int .u64 (xs : Int)]] w r.foot fun v H => ∃ l' r', H = [r'] ∧ RtR q 2 n l' base sum r' ∧ RSwapG l base k x xo xs v l' := by
  have hr0 := hr
  obtain ⟨LV, rfl⟩ := hr
  refine enter (n := 106) Tryz.func27 rfl rfl [(0, _), (1, _), (2, _)] rfl ⟨rfl, rfl, rfl, trivial⟩ hs ?_
  refine w_seq (w_reg (wl_e (e_box (cs := [_, _, _]) rfl rfl) ?_))
  rintro _ _ w0_0 ⟨b0_0, rfl, rfl⟩
  refine wl_e (e_allocs [.string ByteArray.empty, .int .u64 0, .int .u64 0] (by kernel_rfl)) ?_
  rintro _ _ w0_1 ⟨b0_1, rfl, rfl⟩
  refine wl_f (f_assign rfl) (wl_end [(0, _), (1, _), (5, _), (6, _)] ⟨rfl, rfl, rfl, rfl, trivial⟩ ?_)
  refine w_seq (w_reg (wl_f (f_move rfl) (wl_f (f_move rfl) (wl_e (e_call1 _ [_, _] rfl Tryz.func38 (by kernel_rfl) (pk1 2 rfl) (fun w hh hs' => rget_spec q 2 n l base sum _ k w (by omega) hr0 hs')) ?_))))
  rintro _ _ w1 ⟨_, rfl, rfl, k', o, s', is, rfl, hG⟩
  refine wl_f (f_move rfl) (wl_f (f_extract rfl rfl) ?_)
  refine wl_f (f_extract rfl rfl) ?_
  refine wl_e (e_allocs [.string ByteArray.empty, .int .u64 0, .int .u64 0] (by kernel_rfl)) ?_
  rintro _ _ w1_6 ⟨b1_6, rfl, rfl⟩
  refine wl_e0 (e_store0 (us := [_, _, _]) rfl rfl rfl (by kernel_rfl) (by simp [Value.oneCell']) rfl rfl) ?_
  rintro _ _ w1_7 rfl
  refine wl_f (f_assign rfl) (wl_end [(0, _), (1, _), (5, _), (6, _), (8, _), (9, _)] ⟨rfl, rfl, rfl, rfl, rfl, rfl, trivial⟩ ?_)
  refine w_seq (w_seq (w_reg (wl_f (f_move rfl) (wl_f (f_not rfl rfl) ?_))))
  refine wl_end [(0, _), (1, _), (5, _), (6, _), (8, _), (17, _)] ⟨rfl, rfl, rfl, rfl, rfl, rfl, trivial⟩ ?_
  refine w_ifb rfl (fun hc1 => ?_) (fun hc1 => ?_)
  · skip
    have hno : k ∉ eks l := by
      rcases hG with ⟨_, h, _⟩ | ⟨h, _⟩
      · exact h
      · rw [h] at hc1; cases hc1
    refine w_seq (w_reg (wl_f (f_build rfl build_entry0) ?_))
    refine wl_e0 (e_store2 (us := [_, _, _]) rfl rfl rfl (by kernel_rfl) (by simp [Value.oneCell']) rfl rfl) ?_
    rintro _ _ w3_1 rfl
    refine wl_f (f_assign rfl) (wl_end [(6, _), (7, _)] ⟨rfl, rfl, trivial⟩ ?_)
    refine w_pick [2, 1] rfl ?_
    refine w_ret ?_
    refine ⟨_, _, fun a ha hh => results_mix Tryz.results27 (rm_cell (cell_agg 0 rfl Tryz.underlying46 rfl (by kernel_rfl) rfl) (rm_tmp rfl rm_nil)) a ha _ hh, List.sublist_cons_self .., ?_⟩
    exact ⟨l, _, rfl, ⟨_, rfl⟩, .inl ⟨8, rfl, rfl, .inl ⟨hno, rfl⟩⟩⟩
  · skip
    obtain ⟨A, s, B, hl2, hA, hk2, hs2⟩ : ∃ A s B, l = A ++ (k, o, s) :: B ∧ k ∉ eks A ∧ k' = k ∧ s' = base := by
      rcases hG with ⟨h, _⟩ | ⟨_, A, s, B, h2, h3, h4, h5⟩
      · rw [h] at hc1; exact absurd rfl hc1
      · exact ⟨A, s, B, h2, h3, h4, h5⟩
    subst hl2
    have hk3 := hk2.symm
    subst hk3
    have hs3 := hs2.symm
    subst hs3
    have hAt : RAt (A ++ (k, o, s) :: B) k o s A B := ⟨rfl, hA⟩
    clear hG hc1
    refine w_skip ?_
    refine w_seq (w_seq (w_reg (wl_f (f_fieldAddr 0 rfl Tryz.underlying46 rfl rfl (by kernel_rfl)) ?_)))
    refine wl_f (f_loadb 3 rfl Tryz.underlying9 rfl rfl rfl) ?_
    refine wl_f (f_eqls rfl rfl) ?_
    refine wl_end [(0, _), (1, _), (5, _), (6, _), (8, _), (21, _)] ⟨rfl, rfl, rfl, rfl, rfl, rfl, trivial⟩ ?_
    refine w_ifd rfl (fun hc2 => ?_) (fun hc2 => ?_)
    · skip
      have hx : x = ByteArray.empty := hc2
      refine w_seq (w_reg (wl_f (f_build rfl build_entry0) ?_))
      refine wl_e0 (e_store2 (us := [_, _, _]) rfl rfl rfl (by kernel_rfl) (by simp [Value.oneCell']) rfl rfl) ?_
      rintro _ _ w5_1 rfl
      refine wl_f (f_assign rfl) (wl_end [(6, _), (7, _)] ⟨rfl, rfl, trivial⟩ ?_)
      refine w_pick [2, 1] rfl ?_
      refine w_ret ?_
      refine ⟨_, _, fun a ha hh => results_mix Tryz.results27 (rm_cell (cell_agg 0 rfl Tryz.underlying46 rfl (by kernel_rfl) rfl) (rm_tmp rfl rm_nil)) a ha _ hh, List.sublist_cons_self .., ?_⟩
      exact ⟨_, _, rfl, ⟨_, rfl⟩, .inl ⟨3, rfl, rfl, .inr ⟨o, s, A, B, hAt, .inl ⟨hx, rfl⟩⟩⟩⟩
    · skip
      have hx : x ≠ ByteArray.empty := hc2
      refine w_skip ?_
      refine w_seq (w_seq ?_)
      refine w_draw [(0, true), (1, true), (2, true), (3, true), (4, true), (5, true), (6, false), (7, true)] (_) ([]) mixed (by kernel_rfl) (by kernel_rfl) rfl (perm_all _) (fun w6_ => ?_)
      refine wd_f rfl (f_move rfl) (wd_f rfl (f_nilCheck rfl) (wd_f rfl (f_fieldAddr 2 rfl Tryz.underlying65 rfl rfl (by kernel_rfl)) ?_))
      refine wd_f rfl (f_loadB 1 0 rfl rfl rfl Tryz.underlying42 rfl rfl) ?_
      refine wd_f rfl (f_fieldAddr 0 rfl Tryz.underlying46 rfl rfl (by kernel_rfl)) ?_
      refine wd_f rfl (f_loadb 3 rfl Tryz.underlying9 rfl rfl rfl) ?_
      refine wd_e rfl (e_call0 rfl Tryz.func40 (by kernel_rfl) (fun w hh => rplace_spec LV _ x w (Rd.heldB hh (i := 1) (j := 1) rfl rfl) (by omega))) ?_
      rintro _ _ w2 ⟨_, rfl, rfl, y, rfl, hy⟩
      refine ⟨_, List.Perm.refl _, ?_⟩
      refine wd_f rfl (f_geq rfl rfl) ?_
      refine wd_end [(0, _), (1, _), (5, _), (6, _), (8, _), (30, _)] ⟨rfl, rfl, rfl, rfl, rfl, rfl, trivial⟩ ?_
      refine w_ifd rfl (fun hc3 => ?_) (fun hc3 => ?_)
      · skip
        have hxi := rplE_in hy (by omega)
        refine w_seq (w_reg (wl_f (f_build rfl build_entry0) ?_))
        refine wl_e0 (e_store2 (us := [_, _, _]) rfl rfl rfl (by kernel_rfl) (by simp [Value.oneCell']) rfl rfl) ?_
        rintro _ _ w7_1 rfl
        refine wl_f (f_assign rfl) (wl_end [(6, _), (7, _)] ⟨rfl, rfl, trivial⟩ ?_)
        refine w_pick [2, 1] rfl ?_
        refine w_ret ?_
        refine ⟨_, _, fun a ha hh => results_mix Tryz.results27 (rm_cell (cell_agg 0 rfl Tryz.underlying46 rfl (by kernel_rfl) rfl) (rm_tmp rfl rm_nil)) a ha _ hh, List.sublist_cons_self .., ?_⟩
        exact ⟨_, _, rfl, ⟨_, rfl⟩, .inl ⟨10, rfl, rfl, .inr ⟨o, s, A, B, hAt, .inr ⟨hx, .inl ⟨hxi, rfl⟩⟩⟩⟩⟩
      · skip
        have hxn := rplE_no hy (by omega)
        refine w_skip ?_
        refine w_seq (w_seq (w_reg (wl_f (f_move rfl) (wl_f (f_nilCheck rfl) (wl_f (f_fieldAddr 0 rfl Tryz.underlying65 rfl rfl (by kernel_rfl)) ?_)))))
        refine wl_f (f_loadB 1 0 rfl rfl rfl Tryz.underlying3 rfl rfl) ?_
        refine wl_f (f_eql rfl rfl) ?_
        refine wl_end [(0, _), (1, _), (5, _), (6, _), (8, _), (36, _)] ⟨rfl, rfl, rfl, rfl, rfl, rfl, trivial⟩ ?_
        refine w_ifd rfl (fun h => absurd h (by decide)) (fun _ => ?_)
        refine w_seq (w_seq ?_)
        refine w_post (fun m' H w' => ∃ bb : Bool, m' = [(0, .pointer (some ⟨q, 0, .none⟩)), (1, .string k), (5, .pointer (some ⟨b0_0, 0, .none⟩)), (6, .pointer (some ⟨b0_1, 0, .none⟩)), (8, .pointer (some ⟨b1_6, 0, .none⟩)), (85, .bool bb)] ∧ H = [blk b1_6 [.string k, .int .u64 (o : Int), .int .u64 (base : Int)] 46, bun (rts q 2 n (A ++ (k, o, s) :: B) LV base sum), blk b0_1 [.string ByteArray.empty, .int .u64 0, .int .u64 0] 46, blk b0_0 [.string x, .int .u64 (xo : Int), .int .u64 (xs : Int)] 46] ∧ (bb = true → xo = 0 ∨ o < xo ∨ base < xs) ∧ ((xo = 0 ∨ o < xo ∨ base < xs) → bb = true)) ?_ ?_
        · by_cases h1 : xo = 0
          · skip
            refine w_draw [(0, true), (1, true), (2, true), (3, true), (4, true), (5, true), (6, true), (7, true), (8, true), (9, true), (10, true), (11, true), (12, true), (13, true), (14, true), (15, true), (16, true), (17, true), (18, true)] (_) ([]) mixed (by kernel_rfl) (by kernel_rfl) rfl (perm_all _) (fun w13_ => ?_)
            refine wd_f rfl (f_fieldAddr 1 rfl Tryz.underlying46 rfl rfl (by kernel_rfl)) ?_
            refine wd_f rfl (f_loadb 3 rfl Tryz.underlying33 rfl rfl rfl) ?_
            refine wd_f rfl (f_eqv (v' := .bool true) (f_eql rfl rfl) (by rw [decide_eq_true (by omega)])) ?_
            refine wd_f rfl (f_move rfl) (wd_gs rfl rfl rfl ?_)
            refine wd_gs rfl rfl rfl ?_
            refine wd_gs rfl rfl rfl ?_
            refine wd_gs rfl rfl rfl ?_
            refine wd_gs rfl rfl rfl ?_
            refine wd_f rfl (f_pick1 rfl rfl) ?_
            refine wd_f rfl (f_move rfl) (wd_gs rfl rfl rfl ?_)
            refine wd_gs rfl rfl rfl ?_
            refine wd_gs rfl rfl rfl ?_
            refine wd_gs rfl rfl rfl ?_
            refine wd_gs rfl rfl rfl ?_
            refine wd_gs rfl rfl rfl ?_
            refine wd_gs rfl rfl rfl ?_
            refine wd_f rfl (f_pick1 rfl rfl) ?_
            refine wd_end [(0, _), (1, _), (5, _), (6, _), (8, _), (85, _)] ⟨rfl, rfl, rfl, rfl, rfl, rfl, trivial⟩ ?_
            exact ⟨true, rfl, rfl, fun _ => .inl h1, fun _ => rfl⟩
          · by_cases h2 : o < xo
            · skip
              refine w_draw [(0, true), (1, true), (2, true), (3, true), (4, true), (5, true), (6, true), (7, true), (8, true), (9, true), (10, true), (11, true), (12, true), (13, true), (14, true), (15, true), (16, true), (17, true), (18, true)] (_) ([]) mixed (by kernel_rfl) (by kernel_rfl) rfl (perm_all _) (fun w13_ => ?_)
              refine wd_f rfl (f_fieldAddr 1 rfl Tryz.underlying46 rfl rfl (by kernel_rfl)) ?_
              refine wd_f rfl (f_loadb 3 rfl Tryz.underlying33 rfl rfl rfl) ?_
              refine wd_f rfl (f_eqv (v' := .bool false) (f_eql rfl rfl) (by rw [decide_eq_false (by omega)])) ?_
              refine wd_f rfl (f_move rfl) (wd_gf rfl rfl rfl (f_fieldAddr 1 rfl Tryz.underlying46 rfl rfl (by kernel_rfl)) ?_)
              refine wd_gf rfl rfl rfl (f_loadb 3 rfl Tryz.underlying33 rfl rfl rfl) ?_
              refine wd_gf rfl rfl rfl (f_fieldAddr 1 rfl Tryz.underlying46 rfl rfl (by kernel_rfl)) ?_
              refine wd_gf rfl rfl rfl (f_loadb 0 rfl Tryz.underlying33 rfl rfl rfl) ?_
              refine wd_gf rfl rfl rfl (f_eqv (v' := .bool true) (f_gtr rfl rfl) (by rw [decide_eq_true (by omega)])) ?_
              refine wd_f rfl (f_pick0 rfl rfl) ?_
              refine wd_f rfl (f_move rfl) (wd_gs rfl rfl rfl ?_)
              refine wd_gs rfl rfl rfl ?_
              refine wd_gs rfl rfl rfl ?_
              refine wd_gs rfl rfl rfl ?_
              refine wd_gs rfl rfl rfl ?_
              refine wd_gs rfl rfl rfl ?_
              refine wd_gs rfl rfl rfl ?_
              refine wd_f rfl (f_pick1 rfl rfl) ?_
              refine wd_end [(0, _), (1, _), (5, _), (6, _), (8, _), (85, _)] ⟨rfl, rfl, rfl, rfl, rfl, rfl, trivial⟩ ?_
              exact ⟨true, rfl, rfl, fun _ => .inr (.inl h2), fun _ => rfl⟩
            · skip
              refine w_draw [(0, true), (1, true), (2, true), (3, true), (4, true), (5, true), (6, true), (7, true), (8, true), (9, true), (10, true), (11, true), (12, true), (13, true), (14, true), (15, true), (16, true), (17, true), (18, true)] (_) ([]) mixed (by kernel_rfl) (by kernel_rfl) rfl (perm_all _) (fun w13_ => ?_)
              refine wd_f rfl (f_fieldAddr 1 rfl Tryz.underlying46 rfl rfl (by kernel_rfl)) ?_
              refine wd_f rfl (f_loadb 3 rfl Tryz.underlying33 rfl rfl rfl) ?_
              refine wd_f rfl (f_eqv (v' := .bool false) (f_eql rfl rfl) (by rw [decide_eq_false (by omega)])) ?_
              refine wd_f rfl (f_move rfl) (wd_gf rfl rfl rfl (f_fieldAddr 1 rfl Tryz.underlying46 rfl rfl (by kernel_rfl)) ?_)
              refine wd_gf rfl rfl rfl (f_loadb 3 rfl Tryz.underlying33 rfl rfl rfl) ?_
              refine wd_gf rfl rfl rfl (f_fieldAddr 1 rfl Tryz.underlying46 rfl rfl (by kernel_rfl)) ?_
              refine wd_gf rfl rfl rfl (f_loadb 0 rfl Tryz.underlying33 rfl rfl rfl) ?_
              refine wd_gf rfl rfl rfl (f_eqv (v' := .bool false) (f_gtr rfl rfl) (by rw [decide_eq_false (by omega)])) ?_
              refine wd_f rfl (f_pick0 rfl rfl) ?_
              refine wd_f rfl (f_move rfl) (wd_gf rfl rfl rfl (f_fieldAddr 2 rfl Tryz.underlying46 rfl rfl (by kernel_rfl)) ?_)
              refine wd_gf rfl rfl rfl (f_loadb 3 rfl Tryz.underlying33 rfl rfl rfl) ?_
              refine wd_gf rfl rfl rfl (f_move rfl) ?_
              refine wd_gf rfl rfl rfl (f_nilCheck rfl) ?_
              refine wd_gf rfl rfl rfl (f_fieldAddr 3 rfl Tryz.underlying65 rfl rfl (by kernel_rfl)) ?_
              refine wd_gf rfl rfl rfl (f_loadB 1 0 rfl rfl rfl Tryz.underlying33 rfl rfl) ?_
              refine wd_gf rfl rfl rfl (f_gtr rfl rfl) ?_
              refine wd_f rfl (f_pick0 rfl rfl) ?_
              refine wd_end [(0, _), (1, _), (5, _), (6, _), (8, _), (85, _)] ⟨rfl, rfl, rfl, rfl, rfl, rfl, trivial⟩ ?_
              exact ⟨_, rfl, rfl, fun h => .inr (.inr (by have := of_decide_eq_true h; omega)), fun h => decide_eq_true (by omega)⟩
        rintro _ _ w13_ ⟨bb, rfl, rfl, hb1, hb2⟩
        refine w_ifb rfl (fun hc5 => ?_) (fun hc5 => ?_)
        · skip
          refine w_seq (w_reg (wl_f (f_build rfl build_entry0) ?_))
          refine wl_e0 (e_store2 (us := [_, _, _]) rfl rfl rfl (by kernel_rfl) (by simp [Value.oneCell']) rfl rfl) ?_
          rintro _ _ w14_1 rfl
          refine wl_f (f_assign rfl) (wl_end [(6, _), (7, _)] ⟨rfl, rfl, trivial⟩ ?_)
          refine w_pick [2, 1] rfl ?_
          refine w_ret ?_
          refine ⟨_, _, fun a ha hh => results_mix Tryz.results27 (rm_cell (cell_agg 0 rfl Tryz.underlying46 rfl (by kernel_rfl) rfl) (rm_tmp rfl rm_nil)) a ha _ hh, List.sublist_cons_self .., ?_⟩
          exact ⟨_, _, rfl, ⟨_, rfl⟩, .inl ⟨1, rfl, rfl, .inr ⟨o, s, A, B, hAt, .inr ⟨hx, .inr ⟨hxn, hb1 hc5, rfl⟩⟩⟩⟩⟩
        · skip
          have hnb : ¬ (xo = 0 ∨ o < xo ∨ base < xs) := fun h => hc5 (hb2 h)
          refine w_skip ?_
          refine w_reg (wl_f (f_fieldAddr 2 rfl Tryz.underlying46 rfl rfl (by kernel_rfl)) ?_)
          refine wl_e0 (e_store3 (us := [_]) rfl rfl rfl (by kernel_rfl) (by simp [Value.oneCell']) rfl rfl) ?_
          rintro _ _ w15_1 rfl
          refine wl_end [(0, _), (1, _), (5, _), (6, _), (8, _)] ⟨rfl, rfl, rfl, rfl, rfl, trivial⟩ ?_
          refine w_seq (w_pick [1, 0, 0, 0] rfl ?_)
          refine w_with fun hh => ?_
          obtain ⟨g, cap, e⟩ := rowB_form hh (i := 0) (j := 1) rfl rfl (by simp; omega)
          subst e
          clear hh
          refine w_unb [_, _] ?_
          have hAB : (A ++ B).length ≤ 64 := by
            simp only [List.length_append, List.length_cons] at hl ⊢
            omega
          refine w_post (fun m H w' => ∃ (U : Value), m = [(6, .pointer (some ⟨b0_1, 0, .none⟩)), (8, .pointer (some ⟨b1_6, 0, .none⟩))] ∧ H = rts q 2 n (A ++ B ++ [(x, xo, 0)]) U base sum ++ [blk b1_6 [.string k, .int .u64 (o : Int), .int .u64 (base : Int)] 46, blk b0_1 [.string ByteArray.empty, .int .u64 0, .int .u64 0] 46]) ?_ ?_
          · skip
            refine w_drawx (.fl 0 (.fl 1 (.fl 2 (.fl 3 (.fl 4 (.fl 5 (.fl 6 (.fl 7 (.fl 8 (.fl 9 (.fl 12 (.two 10 (.two 11 (.ef 13 (.ef 14 (.fl 15 (.fl 16 (.ef 17 .done))))) 13 (.ef 11 (.ef 14 (.fl 15 (.fl 16 (.ef 17 .done)))))) 13 (.ef 10 (.ef 11 (.ef 14 (.fl 15 (.fl 16 (.ef 17 .done)))))))))))))))))) ([(_, some 17), (_, none), (_, none), (_, none), (_, none)]) ([]) mixed (by kernel_rfl) (by kernel_rfl) rfl rfl (List.Perm.refl _) (fun w16_ => ?_)
            refine wx_f rfl (f_move rfl) (wx_f rfl (f_move rfl) (wx_f rfl (f_nilCheck rfl) (wx_f rfl (f_fieldAddr 2 rfl Tryz.underlying65 rfl rfl (by kernel_rfl)) ?_)))
            refine wx_f rfl (f_loadb 0 rfl Tryz.underlying42 rfl rfl rfl) ?_
            refine wx_f rfl (f_move rfl) (wx_f rfl (f_nilCheck rfl) (wx_f rfl (f_fieldAddr 2 rfl Tryz.underlying65 rfl rfl (by kernel_rfl)) ?_))
            refine wx_f rfl (f_loadb 0 rfl Tryz.underlying42 rfl rfl rfl) ?_
            refine wx_f rfl (f_move rfl) (wx_f rfl (f_loadsb (cs := [_, _, _]) 4 rfl Tryz.underlying46 rfl (by kernel_rfl) rfl rfl) ?_)
            refine wx_two ?_ ?_
            · skip
              refine ks_e rfl (e_call0 rfl Tryz.func40 (by kernel_rfl) (fun w hh => rplace_spec _ _ k w (Rd.held0 hh (i := 1) rfl) (by omega))) ?_
              rintro _ _ w16_10 ⟨_, rfl, rfl, y2, rfl, hy2⟩
              obtain rfl : y2 = (A.length : Nat) := rplE_uniq hA hy2
              refine ⟨_, List.Perm.refl _, ?_⟩
              refine wx_two ?_ ?_
              · skip
                refine ks_e rfl (e_call0 rfl Tryz.func39 (by kernel_rfl) (fun w hh => rwithout_spec _ _ A B (k, o, s) w (Rd.held0 hh (i := 1) rfl) (by omega))) ?_
                rintro _ _ w16_11 ⟨_, rfl, U1, a1, rfl, rfl⟩
                refine ⟨_, List.perm_append_comm_assoc _ _ _, ?_⟩
                refine wx_ef ?_
                refine ks_e rfl (e_lit1 (cs := [_, _, _]) t42 rfl rfl rfl (by omega)) ?_
                rintro _ _ w16_13 ⟨b16_13, rfl, rfl⟩
                refine ⟨_, List.perm_middle.symm, ?_⟩
                refine wx_ef ?_
                refine ks_e rfl (e_appN 6 t42 rfl rfl rfl (fun w hh => Rd.held0 hh (i := 5) rfl) (by simp [Value.oneCell']) (by omega) (by omega)) ?_
                rintro _ _ w16_14 ⟨⟨U2, a2, rfl⟩, rfl⟩
                refine ⟨_, List.Perm.refl _, ?_⟩
                refine wx_f rfl (f_nilCheck rfl) (wx_f rfl (f_fieldAddr 2 rfl Tryz.underlying65 rfl rfl (by kernel_rfl)) ?_)
                refine wx_ef ?_
                refine ks_e0 rfl (e_storeN 0 (us := [_]) rfl rfl rfl rfl (by kernel_rfl) (by simp [Value.oneCell']) rfl rfl) ?_
                rintro _ _ w16_17 rfl
                refine ⟨_, pick_perm [1, 1, 1, 1] _ rfl, ?_⟩
                refine wx_endp [(6, _), (8, _)] [4, 5, 1, 1] ⟨rfl, rfl, trivial⟩ rfl ?_
                refine ⟨.slice U2 ((A ++ B).length + 1) a2, rfl, ?_⟩
                rw [rts, encs_snoc, List.length_append (bs := [(x, xo, 0)])]
                rfl
              · skip
                refine ks_e rfl (e_lit1 (cs := [_, _, _]) t42 rfl rfl rfl (by omega)) ?_
                rintro _ _ w16_13 ⟨b16_13, rfl, rfl⟩
                refine ⟨_, List.perm_middle.symm, ?_⟩
                refine wx_ef ?_
                refine ks_e rfl (e_call0 rfl Tryz.func39 (by kernel_rfl) (fun w hh => rwithout_spec _ _ A B (k, o, s) w (Rd.held0 hh (i := 1) rfl) (by omega))) ?_
                rintro _ _ w16_11 ⟨_, rfl, U1, a1, rfl, rfl⟩
                refine ⟨_, List.perm_append_comm_assoc _ _ _, ?_⟩
                refine wx_ef ?_
                refine ks_e rfl (e_appN 5 t42 rfl rfl rfl (fun w hh => Rd.held0 hh (i := 6) rfl) (by simp [Value.oneCell']) (by omega) (by omega)) ?_
                rintro _ _ w16_14 ⟨⟨U2, a2, rfl⟩, rfl⟩
                refine ⟨_, List.Perm.refl _, ?_⟩
                refine wx_f rfl (f_nilCheck rfl) (wx_f rfl (f_fieldAddr 2 rfl Tryz.underlying65 rfl rfl (by kernel_rfl)) ?_)
                refine wx_ef ?_
                refine ks_e0 rfl (e_storeN 0 (us := [_]) rfl rfl rfl rfl (by kernel_rfl) (by simp [Value.oneCell']) rfl rfl) ?_
                rintro _ _ w16_17 rfl
                refine ⟨_, pick_perm [1, 1, 1, 1] _ rfl, ?_⟩
                refine wx_endp [(6, _), (8, _)] [4, 4, 1, 1] ⟨rfl, rfl, trivial⟩ rfl ?_
                refine ⟨.slice U2 ((A ++ B).length + 1) a2, rfl, ?_⟩
                rw [rts, encs_snoc, List.length_append (bs := [(x, xo, 0)])]
                rfl
            · skip
              refine ks_e rfl (e_lit1 (cs := [_, _, _]) t42 rfl rfl rfl (by omega)) ?_
              rintro _ _ w16_13 ⟨b16_13, rfl, rfl⟩
              refine ⟨_, List.perm_middle.symm, ?_⟩
              refine wx_ef ?_
              refine ks_e rfl (e_call0 rfl Tryz.func40 (by kernel_rfl) (fun w hh => rplace_spec _ _ k w (Rd.held0 hh (i := 1) rfl) (by omega))) ?_
              rintro _ _ w16_10 ⟨_, rfl, rfl, y2, rfl, hy2⟩
              obtain rfl : y2 = (A.length : Nat) := rplE_uniq hA hy2
              refine ⟨_, List.Perm.refl _, ?_⟩
              refine wx_ef ?_
              refine ks_e rfl (e_call0 rfl Tryz.func39 (by kernel_rfl) (fun w hh => rwithout_spec _ _ A B (k, o, s) w (Rd.held0 hh (i := 1) rfl) (by omega))) ?_
              rintro _ _ w16_11 ⟨_, rfl, U1, a1, rfl, rfl⟩
              refine ⟨_, List.perm_append_comm_assoc _ _ _, ?_⟩
              refine wx_ef ?_
              refine ks_e rfl (e_appN 5 t42 rfl rfl rfl (fun w hh => Rd.held0 hh (i := 6) rfl) (by simp [Value.oneCell']) (by omega) (by omega)) ?_
              rintro _ _ w16_14 ⟨⟨U2, a2, rfl⟩, rfl⟩
              refine ⟨_, List.Perm.refl _, ?_⟩
              refine wx_f rfl (f_nilCheck rfl) (wx_f rfl (f_fieldAddr 2 rfl Tryz.underlying65 rfl rfl (by kernel_rfl)) ?_)
              refine wx_ef ?_
              refine ks_e0 rfl (e_storeN 0 (us := [_]) rfl rfl rfl rfl (by kernel_rfl) (by simp [Value.oneCell']) rfl rfl) ?_
              rintro _ _ w16_17 rfl
              refine ⟨_, pick_perm [1, 1, 1, 1] _ rfl, ?_⟩
              refine wx_endp [(6, _), (8, _)] [4, 4, 1, 1] ⟨rfl, rfl, trivial⟩ rfl ?_
              refine ⟨.slice U2 ((A ++ B).length + 1) a2, rfl, ?_⟩
              rw [rts, encs_snoc, List.length_append (bs := [(x, xo, 0)])]
              rfl
          rintro _ _ w16_ ⟨U, rfl, rfl⟩
          refine w_seq (w_reg (wl_f (f_loadsb (cs := [_, _, _]) 2 rfl Tryz.underlying46 rfl (by kernel_rfl) rfl rfl) ?_))
          refine wl_e0 (e_store3 (us := [_, _, _]) rfl rfl rfl (by kernel_rfl) (by simp [Value.oneCell']) rfl rfl) ?_
          rintro _ _ w17_1 rfl
          refine wl_f (f_assign rfl) (wl_end [(6, _), (7, _)] ⟨rfl, rfl, trivial⟩ ?_)
          refine w_bun (H := [_, _]) [_, _] ?_
          refine w_pick [2, 0] rfl ?_
          refine w_ret ?_
          refine ⟨_, _, fun a ha hh => results_mix Tryz.results27 (rm_cell (cell_agg 0 rfl Tryz.underlying46 rfl (by kernel_rfl) rfl) (rm_tmp rfl rm_nil)) a ha _ hh, List.sublist_cons_self .., ?_⟩
          exact ⟨_, _, rfl, ⟨_, rfl⟩, .inr ⟨o, s, A, B, hAt, hx, hxn, hnb, rfl, rfl⟩⟩
end Go.Proofs.YtmagdjlcckgkpaaGreat
