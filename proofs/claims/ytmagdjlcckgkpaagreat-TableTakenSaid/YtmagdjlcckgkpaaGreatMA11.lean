/- Texts of this proof, part MA11: what the code does, step by step. They have no conditions. -/
import Derived.Test.YtmagdjlcckgkpaaGreatMA10
import Derived.Test.YtmagdjlcckgkpaaGreatMA8
import Derived.Test.YtmagdjlcckgkpaaGreatMA3
import Derived.Test.YtmagdjlcckgkpaaGreatMA2
import Derived.ProofKit
import Derived.Deep.Slices
import Derived.Test.YtmagdjlcckgkpaaGreatMA4
import Derived.Test.YtmagdjlcckgkpaaGreatRows
/- The reference's tables: sorting, all entries, sums. -/
namespace Go.Proofs.YtmagdjlcckgkpaaGreat
open Go.RowKit

theorem eins_cells (out : List En) (a : Nat) (p : En) : [] ++ ((encs out).drop (0 * 3)).take ((a - 0) * 3) ++ [.string p.1, .int .u64 (p.2.1 : Int), .int .u64 (p.2.2 : Int)] ++ ((encs out).drop (a * 3)).take ((out.length - a) * 3) = encs (out.take a ++ p :: out.drop a) := by
  rw [encs_mid, encs_mid, List.drop_zero, Nat.sub_zero, List.take_of_length_le (i := out.length - a) (by rw [List.length_drop]; omega), encs_app, List.nil_append, List.append_assoc]
  rfl
theorem eks_get {l : List En} {i : Nat} {x : En} (h : l[i]? = some x) : (eks l)[i]? = some x.1 := by simp [eks, h]
theorem eks_mem {l : List En} {x : En} (h : x ∈ l) : x.1 ∈ eks l := List.mem_map_of_mem h
theorem srt_ins {out : List En} {a : Nat} {p : En} (hs : Srts (eks out)) (hp : p.1 ∉ eks out) (h1 : ∀ x ∈ out.take a, nlt x.1 p.1 = true) (h2 : ∀ x, out[a]? = some x → nlt x.1 p.1 = false) : Srts (eks (out.take a ++ p :: out.drop a)) := by
  have h3 : ∀ x ∈ out.drop a, nlt p.1 x.1 = true := by
    cases hd : out.drop a with
    | nil => simp
    | cons y B =>
      have hy : out[a]? = some y := by
        have := congrArg (·[0]?) hd
        simpa using this
      have hyp : nlt p.1 y.1 = true := by
        cases h : nlt p.1 y.1 with
        | true => rfl
        | false => exact absurd (by rw [nlt_total h (h2 y hy)]; exact eks_mem (List.mem_of_getElem? hy)) hp
      intro x hx
      rcases List.mem_cons.1 hx with rfl | hx
      · exact hyp
      · have h4 : Srts (eks (out.take a) ++ eks (y :: B)) := by rw [← hd, ← eks_app, List.take_append_drop]; exact hs
        have h5 := (List.pairwise_append.1 h4).2.1
        exact nlt_trans hyp ((List.pairwise_cons.1 h5).1 x.1 (eks_mem hx))
  have h4 : Srts (eks (out.take a) ++ eks (out.drop a)) := by rw [← eks_app, List.take_append_drop]; exact hs
  obtain ⟨h5, h6, h7⟩ := List.pairwise_append.1 h4
  rw [eks_app]
  refine List.pairwise_append.2 ⟨h5, List.pairwise_cons.2 ⟨fun y hy => ?_, h6⟩, fun x hx y hy => ?_⟩
  · obtain ⟨z, hz, rfl⟩ := List.mem_map.1 hy; exact h3 z hz
  · obtain ⟨z, hz, rfl⟩ := List.mem_map.1 hx
    rcases List.mem_cons.1 hy with rfl | hy
    · exact h1 z hz
    · exact h7 z.1 (eks_mem hz) y hy
set_option maxHeartbeats 4000000 in
theorem rsorted_spec (v : Value) (l : List En) (w : World) (h1 : Rd w Nil 3 v l.length (encs l)) (hl : l.length ≤ 64) (hnd : (eks l).Nodup) :
    Spec Tryz.prog 45 [v] w Nil fun u H => ∃ es : List En, es.Perm l ∧ Srts (eks es) ∧ H = [row u 46 3 es.length (encs es)] := by
  obtain ⟨A1, c1, rfl, -, hc1', g1⟩ := id h1
  refine enter (n := 43) Tryz.func45 rfl rfl [(0, _)] rfl ⟨rfl, trivial⟩ (Holds.start _ _) ?_
  refine w_seq ?_
  refine w_reg ?_
  refine wl_f (f_assign rfl) ?_
  refine wl_end [(0, _)] ⟨rfl, trivial⟩ ?_
  refine w_seq ?_
  refine w_reg ?_
  refine wl_f (f_assign rfl) ?_
  refine wl_end [(0, _), (3, _)] ⟨rfl, rfl, trivial⟩ ?_
  refine w_seq ?_
  refine w_seq ?_
  refine w_reg ?_
  refine wl_f (f_move rfl) ?_
  refine wl_f (f_len rfl Tryz.underlying42) ?_
  refine wl_f (f_move rfl) ?_
  refine wl_end [(3, _), (7, _), (8, _), (9, _)] ⟨rfl, rfl, rfl, rfl, trivial⟩ ?_
  refine w_block ?_
  refine w_nilrow 46 3 ?_
  refine w_loop (fun j m H w => ∃ (i : Nat) (out : List En) (O : Option Addr) (co : Nat), m = [(3, .slice O out.length co), (7, .slice A1 l.length c1), (8, .int .i64 l.length), (9, .int .i64 i)] ∧ H = [row (.slice O out.length co) 46 3 out.length (encs out)] ∧ j + i = l.length ∧ out.Perm (l.take i) ∧ Srts (eks out)) l.length
    ⟨0, [], .none, 0, rfl, rfl, rfl, List.Perm.refl _, List.Pairwise.nil⟩ ?_
  rintro j _ _ w1 ⟨i, out, O, co, rfl, rfl, hj, hp, hs⟩
  refine w_seq ?_
  refine w_reg ?_
  refine wl_f (f_lss rfl rfl) ?_
  refine wl_end [(3, _), (7, _), (8, _), (9, _), (10, _)] ⟨rfl, rfl, rfl, rfl, rfl, trivial⟩ ?_
  refine w_seq ?_
  refine w_ifd rfl (fun hc1 => ?_) (fun hc1 => ?_)
  · skip
    have hi : i < l.length := by omega
    obtain ⟨b1, o1, rfl, -, -, d1⟩ := g1.resolve_left (by omega)
    obtain ⟨p, hpi⟩ : ∃ p, l[i]? = some p := ⟨_, List.getElem?_eq_getElem hi⟩
    have hol : out.length = i := by rw [hp.length_eq, List.length_take]; omega
    have hpo : p.1 ∉ eks out := fun h => by
      have h2 : p.1 ∈ eks (l.take i) := (hp.map Prod.fst).mem_iff.1 h
      have h3 : (eks (l.take i) ++ eks (l.drop i)).Nodup := by rw [← eks_app, List.take_append_drop]; exact hnd
      have h4 : p.1 ∈ eks (l.drop i) := eks_mem (List.mem_of_getElem? (i := 0) (by rw [List.getElem?_drop]; exact hpi))
      exact (List.nodup_append.1 h3).2.2 _ h2 _ h4 rfl
    refine w_skip ?_
    refine w_seq ?_
    refine w_block ?_
    refine w_seq ?_
    refine w_reg ?_
    refine wl_f (f_indexAddr 3 (i := i) rfl rfl Tryz.underlying42 (by kernel_rfl) rfl hi) ?_
    refine wl_f (f_loadso (cs := ecell (some p)) rfl Tryz.underlying46 rfl (by kernel_rfl) (encs_at d1 hpi) id) ?_
    refine wl_e (e_allocs [.string ByteArray.empty, .int .u64 0, .int .u64 0] (by kernel_rfl)) ?_
    rintro _ _ w4_2 ⟨b4_2, rfl, rfl⟩
    (first | refine wl_e0 (e_store0 (us := [_, _, _]) rfl rfl rfl (by kernel_rfl) (by simp [Value.oneCell']) rfl rfl) ?_ | refine wl_e0 (e_store1 (us := [_, _, _]) rfl rfl rfl (by kernel_rfl) (by simp [Value.oneCell']) rfl rfl) ?_ | refine wl_e0 (e_store2 (us := [_, _, _]) rfl rfl rfl (by kernel_rfl) (by simp [Value.oneCell']) rfl rfl) ?_ | refine wl_e0 (e_store3 (us := [_, _, _]) rfl rfl rfl (by kernel_rfl) (by simp [Value.oneCell']) rfl rfl) ?_)
    rintro _ _ w4_3 rfl
    refine wl_end [(3, _), (5, _), (7, _), (8, _), (9, _)] ⟨rfl, rfl, rfl, rfl, rfl, trivial⟩ ?_
    refine w_seq ?_
    refine w_reg ?_
    refine wl_f (f_assign rfl) ?_
    refine wl_end [(3, _), (5, _), (6, _), (7, _), (8, _), (9, _)] ⟨rfl, rfl, rfl, rfl, rfl, rfl, trivial⟩ ?_
    refine w_seq ?_
    refine w_block ?_
    refine w_loop (fun jj m H w => ∃ a : Nat, m = [(3, .slice O out.length co), (5, .pointer (some ⟨b4_2, 0, .none⟩)), (6, .int .i64 a), (7, .slice (some ⟨b1, o1, .none⟩) l.length c1), (8, .int .i64 l.length), (9, .int .i64 i)] ∧ H = [blk b4_2 [.string p.1, .int .u64 (p.2.1 : Int), .int .u64 (p.2.2 : Int)] 46, row (.slice O out.length co) 46 3 out.length (encs out)] ∧ jj + a = out.length ∧ ∀ x ∈ out.take a, nlt x.1 p.1 = true) out.length ⟨0, rfl, rfl, rfl, by simp⟩ ?_
    rintro jj _ _ w2 ⟨a, rfl, rfl, hjj, hall⟩
    refine w_seq ?_
    refine w_seq ?_
    refine w_post (fun m H w' => ∃ c : Bool, m = [(3, .slice O out.length co), (5, .pointer (some ⟨b4_2, 0, .none⟩)), (6, .int .i64 a), (7, .slice (some ⟨b1, o1, .none⟩) l.length c1), (8, .int .i64 l.length), (9, .int .i64 i), (26, .bool c)] ∧ H = [blk b4_2 [.string p.1, .int .u64 (p.2.1 : Int), .int .u64 (p.2.2 : Int)] 46, row (.slice O out.length co) 46 3 out.length (encs out)] ∧ (c = true → ∃ x, out[a]? = some x ∧ nlt x.1 p.1 = true) ∧ (c = false → ∀ x, out[a]? = some x → nlt x.1 p.1 = false)) ?_ ?_
    · by_cases hG6 : (a : Int) < (out.length : Int)
      · skip
        have ha : a < out.length := by omega
        obtain ⟨x, hx⟩ : ∃ x, out[a]? = some x := ⟨_, List.getElem?_eq_getElem ha⟩
        refine w_with fun hh => ?_
        obtain ⟨g, cap, e⟩ := row_form hh (i := 1) rfl (by omega)
        injection e with e1 _ e3
        subst e1; subst e3
        clear hh
        refine w_draw [(0, true), (1, true), (2, true), (3, true), (4, true), (5, true), (6, true), (7, true), (8, true), (9, true), (10, true), (11, true), (12, true), (13, true)] (_) ([]) mixed (by kernel_rfl) (by kernel_rfl) rfl (perm_all _) (fun w6_ => ?_)
        refine wd_f rfl (f_move rfl) ?_
        refine wd_f rfl (f_move rfl) ?_
        refine wd_f rfl (f_len rfl Tryz.underlying42) ?_
        refine wd_f rfl (f_eqv (f_lss rfl rfl) (congrArg Value.bool (decide_eq_true hG6))) ?_
        refine wd_f rfl (f_move rfl) ?_
        refine wd_gf rfl rfl rfl (f_move rfl) ?_
        refine wd_gf rfl rfl rfl (f_move rfl) ?_
        refine wd_gf rfl rfl rfl (f_indexAddr 3 (i := a) rfl rfl Tryz.underlying42 (by kernel_rfl) rfl ha) ?_
        refine wd_gf rfl rfl rfl (f_fieldAddr 0 rfl Tryz.underlying46 rfl rfl (by kernel_rfl)) ?_
        refine wd_gf rfl rfl rfl (f_loadr (v := .string x.1) 1 rfl Tryz.underlying9 rfl rfl (ecells_j (o := some x) (by rw [List.getElem?_map, hx]; rfl) 0 rfl (by omega))) ?_
        refine wd_gf rfl rfl rfl (f_fieldAddr 0 rfl Tryz.underlying46 rfl rfl (by kernel_rfl)) ?_
        (first | refine wd_gf rfl rfl rfl (f_loadb 0 rfl Tryz.underlying9 rfl rfl rfl) ?_ | refine wd_gf rfl rfl rfl (f_loadb 1 rfl Tryz.underlying9 rfl rfl rfl) ?_ | refine wd_gf rfl rfl rfl (f_loadb 2 rfl Tryz.underlying9 rfl rfl rfl) ?_ | refine wd_gf rfl rfl rfl (f_loadb 3 rfl Tryz.underlying9 rfl rfl rfl) ?_ | refine wd_gf rfl rfl rfl (f_loadb 4 rfl Tryz.underlying9 rfl rfl rfl) ?_ | refine wd_gf rfl rfl rfl (f_loadb 5 rfl Tryz.underlying9 rfl rfl rfl) ?_ | refine wd_gf rfl rfl rfl (f_loadb 6 rfl Tryz.underlying9 rfl rfl rfl) ?_)
        refine wd_gf rfl rfl rfl (f_lsss rfl rfl) ?_
        refine wd_f rfl (f_pick rfl rfl rfl) ?_
        refine wd_end [(3, _), (5, _), (6, _), (7, _), (8, _), (9, _), (26, _)] ⟨rfl, rfl, rfl, rfl, rfl, rfl, rfl, trivial⟩ ?_
        refine ⟨nlt x.1 p.1, rfl, rfl, fun h => ⟨x, hx, h⟩, fun h y hy => ?_⟩
        rw [hx] at hy
        injection hy with hy
        subst hy
        exact h
      · skip
        refine w_draw [(0, true), (1, true), (2, true), (3, true), (4, true), (5, true), (6, true), (7, true), (8, true), (9, true), (10, true), (11, true), (12, true), (13, true)] (_) ([]) mixed (by kernel_rfl) (by kernel_rfl) rfl (perm_all _) (fun w6_ => ?_)
        refine wd_f rfl (f_move rfl) ?_
        refine wd_f rfl (f_move rfl) ?_
        refine wd_f rfl (f_len rfl Tryz.underlying42) ?_
        refine wd_f rfl (f_eqv (f_lss rfl rfl) (congrArg Value.bool (decide_eq_false hG6))) ?_
        refine wd_f rfl (f_move rfl) ?_
        refine wd_gs rfl rfl rfl ?_
        refine wd_gs rfl rfl rfl ?_
        refine wd_gs rfl rfl rfl ?_
        refine wd_gs rfl rfl rfl ?_
        refine wd_gs rfl rfl rfl ?_
        refine wd_gs rfl rfl rfl ?_
        refine wd_gs rfl rfl rfl ?_
        refine wd_gs rfl rfl rfl ?_
        refine wd_f rfl (f_pick rfl rfl rfl) ?_
        refine wd_end [(3, _), (5, _), (6, _), (7, _), (8, _), (9, _), (26, _)] ⟨rfl, rfl, rfl, rfl, rfl, rfl, rfl, trivial⟩ ?_
        refine ⟨false, rfl, rfl, fun h => (by cases h), fun _ x hx => absurd (List.getElem?_eq_some_iff.1 hx).1 (by omega)⟩
    rintro _ _ w5 ⟨is, rfl, rfl, h5, h6⟩
    refine w_ifb rfl (fun hc2 => ?_) (fun hc2 => ?_)
    · skip
      obtain ⟨x, hx, hlt⟩ := h5 hc2
      have ha : a < out.length := (List.getElem?_eq_some_iff.1 hx).1
      refine w_skip ?_
      refine w_block ?_
      refine w_reg ?_
      refine wl_f (f_move rfl) ?_
      refine wl_f (f_add rfl rfl (by omega)) ?_
      refine wl_f (f_assign rfl) ?_
      refine wl_end [(3, _), (5, _), (6, _), (7, _), (8, _), (9, _)] ⟨rfl, rfl, rfl, rfl, rfl, rfl, trivial⟩ ?_
      refine ⟨jj - 1, by omega, a + 1, rfl, rfl, by omega, fun y hy => ?_⟩
      rw [take_snoc' hx] at hy
      rcases List.mem_append.1 hy with h | h
      · exact hall y h
      · rw [List.mem_singleton] at h; subst h; exact hlt
    · skip
      have hle : a ≤ out.length := by omega
      have hsi := srt_ins hs hpo hall (h6 (by cases is with | true => exact absurd rfl hc2 | false => rfl))
      refine w_with fun hh => ?_
      have hco : out.length ≤ co := by
        obtain ⟨_, _, e, _, h, _⟩ := Rd.held0 hh (i := 1) rfl
        injection e with _ _ e
        subst e
        exact h
      clear hh
      refine w_exit0 ?_
      refine w_post (fun m H w' => ∃ (U : Option Addr) (cu : Nat), m = [(3, .slice U (out.length + 1) cu), (7, .slice (some ⟨b1, o1, .none⟩) l.length c1), (8, .int .i64 l.length), (9, .int .i64 i)] ∧ H = [row (.slice U (out.length + 1) cu) 46 3 (out.length + 1) (encs (out.take a ++ p :: out.drop a))]) ?_ ?_
      · skip
        refine w_drawx (.fl 1 (.fl 2 (.fl 3 (.fl 5 (.fl 8 (.fl 9 (.fl 10 (.two 0 (.two 4 (.ef 6 (.ef 7 (.ef 11 (.fl 12 .done)))) 6 (.ef 4 (.ef 7 (.ef 11 (.fl 12 .done))))) 6 (.ef 0 (.ef 4 (.ef 7 (.ef 11 (.fl 12 .done))))))))))))) ([(_, none), (_, none)]) ([]) mixed (by kernel_rfl) (by kernel_rfl) rfl rfl (List.Perm.refl _) (fun w8_ => ?_)
        refine wx_f rfl (f_move rfl) ?_
        refine wx_f rfl (f_move rfl) ?_
        refine wx_f rfl (f_sliceA 3 (l := 0) (u := a) rfl Tryz.underlying42 (by kernel_rfl) rfl ⟨_, rfl⟩ (by omega) (by omega)) ?_
        (first | refine wx_f rfl (f_loadsb (cs := [_, _, _]) 0 rfl Tryz.underlying46 rfl (by kernel_rfl) rfl rfl) ?_ | refine wx_f rfl (f_loadsb (cs := [_, _, _]) 1 rfl Tryz.underlying46 rfl (by kernel_rfl) rfl rfl) ?_ | refine wx_f rfl (f_loadsb (cs := [_, _, _]) 2 rfl Tryz.underlying46 rfl (by kernel_rfl) rfl rfl) ?_ | refine wx_f rfl (f_loadsb (cs := [_, _, _]) 3 rfl Tryz.underlying46 rfl (by kernel_rfl) rfl rfl) ?_ | refine wx_f rfl (f_loadsb (cs := [_, _, _]) 4 rfl Tryz.underlying46 rfl (by kernel_rfl) rfl rfl) ?_ | refine wx_f rfl (f_loadsb (cs := [_, _, _]) 5 rfl Tryz.underlying46 rfl (by kernel_rfl) rfl rfl) ?_ | refine wx_f rfl (f_loadsb (cs := [_, _, _]) 6 rfl Tryz.underlying46 rfl (by kernel_rfl) rfl rfl) ?_)
        refine wx_f rfl (f_move rfl) ?_
        refine wx_f rfl (f_move rfl) ?_
        refine wx_f rfl (f_sliceA 3 (l := a) (u := out.length) rfl Tryz.underlying42 (by kernel_rfl) ⟨_, rfl⟩ rfl (by omega) (by omega)) ?_
        refine wx_two ?_ ?_
        · skip
          refine ks_e rfl (e_lit0 t42) ?_
          rintro _ _ w8_0 ⟨b8_0, rfl, rfl⟩
          refine ⟨_, List.perm_middle.symm, ?_⟩
          refine wx_two ?_ ?_
          · skip
            refine ks_e rfl (e_appN 2 t42 rfl rfl rfl (fun w hh => (Rd.held0 hh (i := 1) rfl).cut (l := 0) (u := a) (by omega) (by omega)) (emid_one (encs_one _) _ _) (by omega) (by omega)) ?_
            rintro _ _ w8_4 ⟨⟨U1, a1, rfl⟩, rfl⟩
            refine ⟨_, List.Perm.refl _, ?_⟩
            refine wx_ef ?_
            refine ks_e rfl (e_lit1 (cs := [_, _, _]) t42 rfl rfl rfl (by omega)) ?_
            rintro _ _ w8_6 ⟨b8_6, rfl, rfl⟩
            refine ⟨_, List.perm_middle.symm, ?_⟩
            refine wx_ef ?_
            refine ks_e rfl (e_appN 3 t42 rfl rfl rfl (fun w hh => Rd.held0 hh (i := 2) rfl) (by simp [Value.oneCell']) (by omega) (by omega)) ?_
            rintro _ _ w8_7 ⟨⟨U2, a2, rfl⟩, rfl⟩
            refine ⟨_, List.Perm.refl _, ?_⟩
            refine wx_ef ?_
            refine ks_e rfl (e_appN 3 t42 rfl rfl rfl (fun w hh => (Rd.held0 hh (i := 1) rfl).cut (l := a) (u := out.length) (by omega) (by omega)) (emid_one (encs_one _) _ _) (by omega) (by omega)) ?_
            rintro _ _ w8_11 ⟨⟨U3, a3, rfl⟩, rfl⟩
            refine ⟨_, List.Perm.refl _, ?_⟩
            refine wx_f rfl (f_assign rfl) ?_
            refine wx_endp [(3, _), (7, _), (8, _), (9, _)] [3] ⟨rfl, rfl, rfl, rfl, trivial⟩ rfl ?_
            refine ⟨U3, a3, ?_, ?_⟩
            · rw [show 0 + (a - 0) + 1 + (out.length - a) = out.length + 1 by omega]
            · rw [show 0 + (a - 0) + 1 + (out.length - a) = out.length + 1 by omega, eins_cells]
          · skip
            refine ks_e rfl (e_lit1 (cs := [_, _, _]) t42 rfl rfl rfl (by omega)) ?_
            rintro _ _ w8_6 ⟨b8_6, rfl, rfl⟩
            refine ⟨_, List.perm_middle.symm, ?_⟩
            refine wx_ef ?_
            refine ks_e rfl (e_appN 3 t42 rfl rfl rfl (fun w hh => (Rd.held0 hh (i := 1) rfl).cut (l := 0) (u := a) (by omega) (by omega)) (emid_one (encs_one _) _ _) (by omega) (by omega)) ?_
            rintro _ _ w8_4 ⟨⟨U1, a1, rfl⟩, rfl⟩
            refine ⟨_, List.Perm.refl _, ?_⟩
            refine wx_ef ?_
            refine ks_e rfl (e_appN 3 t42 rfl rfl rfl (fun w hh => Rd.held0 hh (i := 2) rfl) (by simp [Value.oneCell']) (by omega) (by omega)) ?_
            rintro _ _ w8_7 ⟨⟨U2, a2, rfl⟩, rfl⟩
            refine ⟨_, List.Perm.refl _, ?_⟩
            refine wx_ef ?_
            refine ks_e rfl (e_appN 3 t42 rfl rfl rfl (fun w hh => (Rd.held0 hh (i := 1) rfl).cut (l := a) (u := out.length) (by omega) (by omega)) (emid_one (encs_one _) _ _) (by omega) (by omega)) ?_
            rintro _ _ w8_11 ⟨⟨U3, a3, rfl⟩, rfl⟩
            refine ⟨_, List.Perm.refl _, ?_⟩
            refine wx_f rfl (f_assign rfl) ?_
            refine wx_endp [(3, _), (7, _), (8, _), (9, _)] [3] ⟨rfl, rfl, rfl, rfl, trivial⟩ rfl ?_
            refine ⟨U3, a3, ?_, ?_⟩
            · rw [show 0 + (a - 0) + 1 + (out.length - a) = out.length + 1 by omega]
            · rw [show 0 + (a - 0) + 1 + (out.length - a) = out.length + 1 by omega, eins_cells]
        · skip
          refine ks_e rfl (e_lit1 (cs := [_, _, _]) t42 rfl rfl rfl (by omega)) ?_
          rintro _ _ w8_6 ⟨b8_6, rfl, rfl⟩
          refine ⟨_, List.perm_middle.symm, ?_⟩
          refine wx_ef ?_
          refine ks_e rfl (e_lit0 t42) ?_
          rintro _ _ w8_0 ⟨b8_0, rfl, rfl⟩
          refine ⟨_, List.perm_middle.symm, ?_⟩
          refine wx_ef ?_
          refine ks_e rfl (e_appN 2 t42 rfl rfl rfl (fun w hh => (Rd.held0 hh (i := 1) rfl).cut (l := 0) (u := a) (by omega) (by omega)) (emid_one (encs_one _) _ _) (by omega) (by omega)) ?_
          rintro _ _ w8_4 ⟨⟨U1, a1, rfl⟩, rfl⟩
          refine ⟨_, List.Perm.refl _, ?_⟩
          refine wx_ef ?_
          refine ks_e rfl (e_appN 2 t42 rfl rfl rfl (fun w hh => Rd.held0 hh (i := 3) rfl) (by simp [Value.oneCell']) (by omega) (by omega)) ?_
          rintro _ _ w8_7 ⟨⟨U2, a2, rfl⟩, rfl⟩
          refine ⟨_, List.Perm.refl _, ?_⟩
          refine wx_ef ?_
          refine ks_e rfl (e_appN 2 t42 rfl rfl rfl (fun w hh => (Rd.held0 hh (i := 1) rfl).cut (l := a) (u := out.length) (by omega) (by omega)) (emid_one (encs_one _) _ _) (by omega) (by omega)) ?_
          rintro _ _ w8_11 ⟨⟨U3, a3, rfl⟩, rfl⟩
          refine ⟨_, List.Perm.refl _, ?_⟩
          refine wx_f rfl (f_assign rfl) ?_
          refine wx_endp [(3, _), (7, _), (8, _), (9, _)] [2] ⟨rfl, rfl, rfl, rfl, trivial⟩ rfl ?_
          refine ⟨U3, a3, ?_, ?_⟩
          · rw [show 0 + (a - 0) + 1 + (out.length - a) = out.length + 1 by omega]
          · rw [show 0 + (a - 0) + 1 + (out.length - a) = out.length + 1 by omega, eins_cells]
      rintro _ _ w8_ ⟨U, cu, rfl, rfl⟩
      refine w_reg ?_
      refine wl_f (f_add rfl rfl (by omega)) ?_
      refine wl_f (f_move rfl) ?_
      refine wl_end [(3, _), (7, _), (8, _), (9, _)] ⟨rfl, rfl, rfl, rfl, trivial⟩ ?_
      refine ⟨j - 1, by omega, i + 1, out.take a ++ p :: out.drop a, U, cu, by rw [show (out.take a ++ p :: out.drop a).length = out.length + 1 by rw [List.length_append, List.length_cons, List.length_take, List.length_drop]; omega]; rfl, by rw [show (out.take a ++ p :: out.drop a).length = out.length + 1 by rw [List.length_append, List.length_cons, List.length_take, List.length_drop]; omega], by omega, ?_, hsi⟩
      rw [take_snoc' hpi]
      refine List.perm_middle.trans ?_
      rw [List.take_append_drop]
      exact (hp.cons p).trans (List.perm_append_singleton p _).symm
  · skip
    refine w_exit0 ?_
    refine w_seq ?_
    refine w_reg ?_
    refine wl_f (f_move rfl) ?_
    refine wl_f (f_assign rfl) ?_
    refine wl_end [(2, _)] ⟨rfl, trivial⟩ ?_
    refine w_ret ?_
    refine ⟨_, _, fun a ha hh => results_tmps Tryz.results45 rfl a ha _, List.Sublist.refl _, ?_⟩
    have hi : i = l.length := by omega
    subst hi
    rw [List.take_length] at hp
    exact ⟨out, hp, hs, rfl⟩
end Go.Proofs.YtmagdjlcckgkpaaGreat

/- The reference's tables: all entries, sums, making one. -/
namespace Go.Proofs.YtmagdjlcckgkpaaGreat
open Go.RowKit

theorem runtracked_spec (q mode n : Nat) (l : List En) (base sum : Nat) (r : Res) (w : World) (hr : RtR q mode n l base sum r) (hs : Holds w r.foot [r] w) :
    Spec Tryz.prog 31 [.pointer (some ⟨q, 0, .none⟩)] w r.foot fun v H => v = .int .u64 (base : Int) ∧ H = [r] := by
  obtain ⟨LV, rfl⟩ := hr
  refine enter (n := 7) Tryz.func31 rfl rfl [(0, _)] rfl ⟨rfl, trivial⟩ hs ?_
  refine w_seq ?_
  refine w_reg ?_
  refine wl_f (f_assign rfl) ?_
  refine wl_end [(0, _)] ⟨rfl, trivial⟩ ?_
  refine w_seq ?_
  refine w_reg ?_
  refine wl_f (f_move rfl) ?_
  refine wl_f (f_nilCheck rfl) ?_
  refine wl_f (f_fieldAddr 3 rfl Tryz.underlying65 rfl rfl (by kernel_rfl)) ?_
  refine wl_f (f_loadB 0 0 rfl rfl rfl Tryz.underlying33 rfl rfl) ?_
  refine wl_f (f_assign rfl) ?_
  refine wl_end [(2, _)] ⟨rfl, trivial⟩ ?_
  refine w_ret ?_
  refine ⟨_, _, fun a ha hh => results_tmps Tryz.results31 rfl a ha _, List.Sublist.refl _, ?_⟩
  exact ⟨rfl, rfl⟩
theorem rtotal_spec (q mode n : Nat) (l : List En) (base sum : Nat) (r : Res) (w : World) (hr : RtR q mode n l base sum r) (hs : Holds w r.foot [r] w) :
    Spec Tryz.prog 32 [.pointer (some ⟨q, 0, .none⟩)] w r.foot fun v H => v = .int .u64 (sum : Int) ∧ H = [r] := by
  obtain ⟨LV, rfl⟩ := hr
  refine enter (n := 7) Tryz.func32 rfl rfl [(0, _)] rfl ⟨rfl, trivial⟩ hs ?_
  refine w_seq ?_
  refine w_reg ?_
  refine wl_f (f_assign rfl) ?_
  refine wl_end [(0, _)] ⟨rfl, trivial⟩ ?_
  refine w_seq ?_
  refine w_reg ?_
  refine wl_f (f_move rfl) ?_
  refine wl_f (f_nilCheck rfl) ?_
  refine wl_f (f_fieldAddr 4 rfl Tryz.underlying65 rfl rfl (by kernel_rfl)) ?_
  refine wl_f (f_loadB 0 0 rfl rfl rfl Tryz.underlying33 rfl rfl) ?_
  refine wl_f (f_assign rfl) ?_
  refine wl_end [(2, _)] ⟨rfl, trivial⟩ ?_
  refine w_ret ?_
  refine ⟨_, _, fun a ha hh => results_tmps Tryz.results32 rfl a ha _, List.Sublist.refl _, ?_⟩
  exact ⟨rfl, rfl⟩
theorem loc_uniq {l : List En} (hn : (eks l).Nodup) {A B : List En} {k : ByteArray} {x y : Nat × Nat} (h : l = A ++ (k, x) :: B) (hm : (k, y) ∈ l) : x = y := by
  subst h
  have h1 : (k, x) ∈ A ++ (k, x) :: B := by simp
  rw [eks_app] at hn
  obtain ⟨_, h3, h4⟩ := List.nodup_append.1 hn
  rcases List.mem_append.1 hm with h | h
  · exact absurd rfl (h4 _ (eks_mem h) _ (by simp [eks]))
  · rcases List.mem_cons.1 h with h | h
    · injection h with _ h; exact h.symm
    · exact absurd (eks_mem h) (List.nodup_cons.1 h3).1
theorem RGet.here {mode : Nat} {l : List En} {base : Nat} {k k' : ByteArray} {o' s' : Nat} {is : Bool} (h : RGet mode l base k k' o' s' is) (hn : (eks l).Nodup) {o s : Nat} (hm : (k, o, s) ∈ l) :
    is = true ∧ k' = k ∧ o' = o ∧ s' = if mode = 2 then base else s := by
  rcases h with ⟨_, h, _⟩ | ⟨h1, A, s0, B, h2, _, h3, h4⟩
  · exact absurd (eks_mem hm) h
  · have := loc_uniq hn h2 hm
    injection this with e1 e2
    subst e1; subst e2
    exact ⟨h1, h3, rfl, h4⟩
def rent (mode base : Nat) (x : En) : En := (x.1, x.2.1, if mode = 2 then base else x.2.2)
theorem eks_rent (mode base : Nat) (l : List En) : eks (l.map (rent mode base)) = eks l := by rw [eks, List.map_map]; rfl
set_option maxHeartbeats 2000000 in
theorem rentries_spec (q mode n : Nat) (l : List En) (base sum : Nat) (r : Res) (w : World) (hl : l.length ≤ 64) (hnd : (eks l).Nodup) (hr : RtR q mode n l base sum r) (hs : Holds w r.foot [r] w) :
    Spec Tryz.prog 30 [.pointer (some ⟨q, 0, .none⟩)] w r.foot fun u H => ∃ es : List En, es.Perm (l.map (rent mode base)) ∧ Srts (eks es) ∧ H = [row u 46 3 es.length (encs es), r] := by
  have hr0 := hr
  obtain ⟨LV, rfl⟩ := hr
  refine enter (n := 31) Tryz.func30 rfl rfl [(0, _)] rfl ⟨rfl, trivial⟩ hs ?_
  refine w_with fun hh => ?_
  obtain ⟨L, cl, rfl⟩ := rowB_slice hh (i := 0) (j := 1) rfl rfl
  clear hh
  refine w_seq ?_
  refine w_reg ?_
  refine wl_f (f_assign rfl) ?_
  refine wl_end [(0, _)] ⟨rfl, trivial⟩ ?_
  refine w_seq ?_
  refine w_reg ?_
  refine wl_f (f_assign rfl) ?_
  refine wl_end [(0, _), (3, _)] ⟨rfl, rfl, trivial⟩ ?_
  refine w_seq ?_
  refine w_seq ?_
  refine w_reg ?_
  refine wl_f (f_move rfl) ?_
  refine wl_f (f_nilCheck rfl) ?_
  refine wl_f (f_fieldAddr 2 rfl Tryz.underlying65 rfl rfl (by kernel_rfl)) ?_
  refine wl_f (f_loadB 0 0 rfl rfl rfl Tryz.underlying42 rfl rfl) ?_
  refine wl_f (f_len rfl Tryz.underlying42) ?_
  refine wl_f (f_move rfl) ?_
  refine wl_end [(0, _), (3, _), (11, _), (12, _), (13, _)] ⟨rfl, rfl, rfl, rfl, rfl, trivial⟩ ?_
  refine w_block ?_
  refine w_nilrow 46 3 ?_
  refine w_loop (fun j m H w => ∃ (i : Nat) (O : Value), m = [(0, .pointer (some ⟨q, 0, .none⟩)), (3, O), (11, .slice L l.length cl), (12, .int .i64 l.length), (13, .int .i64 i)] ∧ H = [row O 46 3 ((l.take i).map (rent mode base)).length (encs ((l.take i).map (rent mode base))), bun (rts q mode n l (.slice L l.length cl) base sum)] ∧ j + i = l.length) l.length
    ⟨0, _, rfl, rfl, rfl⟩ ?_
  rintro j _ _ w1 ⟨i, O, rfl, rfl, hj⟩
  refine w_seq ?_
  refine w_reg ?_
  refine wl_f (f_lss rfl rfl) ?_
  refine wl_end [(0, _), (3, _), (11, _), (12, _), (13, _), (14, _)] ⟨rfl, rfl, rfl, rfl, rfl, rfl, trivial⟩ ?_
  refine w_seq ?_
  refine w_ifd rfl (fun hc1 => ?_) (fun hc1 => ?_)
  · skip
    have hi : i < l.length := by omega
    obtain ⟨p, hpi⟩ : ∃ p, l[i]? = some p := ⟨_, List.getElem?_eq_getElem hi⟩
    have hpm : (p.1, p.2.1, p.2.2) ∈ l := List.mem_of_getElem? hpi
    have hml : ((l.take i).map (rent mode base)).length = i := by rw [List.length_map, List.length_take]; omega
    refine w_with fun hh => ?_
    obtain ⟨g, cap, e⟩ := rowB_form hh (i := 1) (j := 1) rfl rfl (by omega)
    injection e with e1 _ e3
    subst e1; subst e3
    clear hh
    refine w_skip ?_
    refine w_seq ?_
    refine w_block ?_
    refine w_seq ?_
    refine w_reg ?_
    refine wl_f (f_indexAddr 3 (i := i) rfl rfl Tryz.underlying42 (by kernel_rfl) rfl hi) ?_
    refine wl_f (f_loadsBr (cs := ecell (some p)) 1 1 rfl rfl rfl Tryz.underlying46 rfl (by kernel_rfl) (encs_get hpi)) ?_
    refine wl_e (e_allocs [.string ByteArray.empty, .int .u64 0, .int .u64 0] (by kernel_rfl)) ?_
    rintro _ _ w4_2 ⟨b4_2, rfl, rfl⟩
    (first | refine wl_e0 (e_store0 (us := [_, _, _]) rfl rfl rfl (by kernel_rfl) (by simp [Value.oneCell']) rfl rfl) ?_ | refine wl_e0 (e_store1 (us := [_, _, _]) rfl rfl rfl (by kernel_rfl) (by simp [Value.oneCell']) rfl rfl) ?_ | refine wl_e0 (e_store2 (us := [_, _, _]) rfl rfl rfl (by kernel_rfl) (by simp [Value.oneCell']) rfl rfl) ?_ | refine wl_e0 (e_store3 (us := [_, _, _]) rfl rfl rfl (by kernel_rfl) (by simp [Value.oneCell']) rfl rfl) ?_)
    rintro _ _ w4_3 rfl
    refine wl_end [(0, _), (3, _), (5, _), (11, _), (12, _), (13, _)] ⟨rfl, rfl, rfl, rfl, rfl, rfl, trivial⟩ ?_
    refine w_seq ?_
    refine w_reg ?_
    refine wl_f (f_move rfl) ?_
    refine wl_f (f_fieldAddr 0 rfl Tryz.underlying46 rfl rfl (by kernel_rfl)) ?_
    (first | refine wl_f (f_loadb 0 rfl Tryz.underlying9 rfl rfl rfl) ?_ | refine wl_f (f_loadb 1 rfl Tryz.underlying9 rfl rfl rfl) ?_ | refine wl_f (f_loadb 2 rfl Tryz.underlying9 rfl rfl rfl) ?_ | refine wl_f (f_loadb 3 rfl Tryz.underlying9 rfl rfl rfl) ?_ | refine wl_f (f_loadb 4 rfl Tryz.underlying9 rfl rfl rfl) ?_ | refine wl_f (f_loadb 5 rfl Tryz.underlying9 rfl rfl rfl) ?_ | refine wl_f (f_loadb 6 rfl Tryz.underlying9 rfl rfl rfl) ?_)
    refine wl_e (e_call1 _ [_, _] rfl Tryz.func38 (by kernel_rfl) (pk1 2 rfl) (fun w hh hs' => rget_spec q mode n l base sum _ p.1 w (by omega) hr0 hs')) ?_
    rintro _ _ w2 ⟨_, rfl, rfl, k', o', s', is, rfl, hG⟩
    obtain ⟨rfl, rfl, rfl, rfl⟩ := hG.here hnd hpm
    refine wl_f (f_move rfl) ?_
    refine wl_f (f_extract rfl rfl) ?_
    refine wl_f (f_extract rfl rfl) ?_
    refine wl_e (e_allocs [.string ByteArray.empty, .int .u64 0, .int .u64 0] (by kernel_rfl)) ?_
    rintro _ _ w5_7 ⟨b5_7, rfl, rfl⟩
    (first | refine wl_e0 (e_store0 (us := [_, _, _]) rfl rfl rfl (by kernel_rfl) (by simp [Value.oneCell']) rfl rfl) ?_ | refine wl_e0 (e_store1 (us := [_, _, _]) rfl rfl rfl (by kernel_rfl) (by simp [Value.oneCell']) rfl rfl) ?_ | refine wl_e0 (e_store2 (us := [_, _, _]) rfl rfl rfl (by kernel_rfl) (by simp [Value.oneCell']) rfl rfl) ?_ | refine wl_e0 (e_store3 (us := [_, _, _]) rfl rfl rfl (by kernel_rfl) (by simp [Value.oneCell']) rfl rfl) ?_)
    rintro _ _ w5_8 rfl
    refine wl_f (f_assign rfl) ?_
    refine wl_pick [0, 2, 0] rfl ?_
    refine wl_end [(0, _), (3, _), (6, _), (11, _), (12, _), (13, _)] ⟨rfl, rfl, rfl, rfl, rfl, rfl, trivial⟩ ?_
    refine w_reg ?_
    refine wl_f (f_move rfl) ?_
    (first | refine wl_f (f_loadsb (cs := [_, _, _]) 0 rfl Tryz.underlying46 rfl (by kernel_rfl) rfl rfl) ?_ | refine wl_f (f_loadsb (cs := [_, _, _]) 1 rfl Tryz.underlying46 rfl (by kernel_rfl) rfl rfl) ?_ | refine wl_f (f_loadsb (cs := [_, _, _]) 2 rfl Tryz.underlying46 rfl (by kernel_rfl) rfl rfl) ?_ | refine wl_f (f_loadsb (cs := [_, _, _]) 3 rfl Tryz.underlying46 rfl (by kernel_rfl) rfl rfl) ?_ | refine wl_f (f_loadsb (cs := [_, _, _]) 4 rfl Tryz.underlying46 rfl (by kernel_rfl) rfl rfl) ?_ | refine wl_f (f_loadsb (cs := [_, _, _]) 5 rfl Tryz.underlying46 rfl (by kernel_rfl) rfl rfl) ?_ | refine wl_f (f_loadsb (cs := [_, _, _]) 6 rfl Tryz.underlying46 rfl (by kernel_rfl) rfl rfl) ?_)
    refine wl_e (e_lit1 (cs := [_, _, _]) t42 rfl rfl rfl (by omega)) ?_
    rintro _ _ w6_2 ⟨b6_2, rfl, rfl⟩
    refine wl_e (e_appN 2 t42 rfl rfl rfl (fun w hh => Rd.held0 hh (i := 0) rfl) (by simp [Value.oneCell']) (by omega) (by omega)) ?_
    rintro v2 _ w5 ⟨_, rfl⟩
    refine wl_f (f_assign rfl) ?_
    refine wl_pick [2, 2] rfl ?_
    refine wl_end [(0, _), (3, _), (11, _), (12, _), (13, _)] ⟨rfl, rfl, rfl, rfl, rfl, trivial⟩ ?_
    refine w_reg ?_
    refine wl_f (f_add rfl rfl (by omega)) ?_
    refine wl_f (f_move rfl) ?_
    refine wl_end [(0, _), (3, _), (11, _), (12, _), (13, _)] ⟨rfl, rfl, rfl, rfl, rfl, trivial⟩ ?_
    refine ⟨j - 1, by omega, i + 1, v2, rfl, ?_, by omega⟩
    rw [take_snoc' hpi, List.map_append, List.map_cons, List.map_nil, encs_snoc, List.length_append]
    rfl
  · skip
    refine w_exit0 ?_
    refine w_seq ?_
    refine w_reg ?_
    refine wl_f (f_move rfl) ?_
    refine wl_e (e_call0 rfl Tryz.func45 (by kernel_rfl) (fun w hh => rsorted_spec O (l.map (rent mode base)) w (by
      have h := Rd.held0 hh (i := 0) rfl
      rw [List.take_of_length_le (by omega)] at h
      exact h) (by rw [List.length_map]; exact hl) (by rw [eks_rent]; exact hnd))) ?_
    rintro v2 _ w5 ⟨_, rfl, es, hes, hse, rfl⟩
    refine wl_f (f_assign rfl) ?_
    refine wl_pick [0, 1] rfl ?_
    refine wl_end [(2, _)] ⟨rfl, trivial⟩ ?_
    refine w_ret ?_
    refine ⟨_, _, fun a ha hh => results_tmps Tryz.results30 rfl a ha _, List.Sublist.refl _, ?_⟩
    exact ⟨es, hes, hse, rfl⟩
theorem build_rtab (mode n : Int) (w : World) : (Instr.build 65 [(0, .int .i64 mode), (1, .int .i64 n)].toArray).run Tryz.prog w = .ok (.agg [.int .i64 mode, .int .i64 n, .slice .none 0 0, .int .u64 0, .int .u64 0].toArray) w := by kernel_rfl
theorem rtnew_ok (mode n : Nat) (w : World) (hm : mode = 1 ∨ mode = 2) (h1 : 1 ≤ n) (h2 : n ≤ 64) : Spec Tryz.prog 22 [.int .i64 mode, .int .i64 n] w Nil fun r H => ∃ q r', r = .tuple [.pointer (some ⟨q, 0, .none⟩), .int .i64 0].toArray ∧ H = [r'] ∧ RtR q mode n [] 0 0 r' := by
  refine enter (n := 22) Tryz.func22 rfl rfl [(0, _), (1, _)] rfl ⟨rfl, rfl, trivial⟩ (Holds.start _ _) ?_
  refine w_seq ?_
  refine w_reg ?_
  refine wl_f (f_assign rfl) ?_
  refine wl_f (f_assign rfl) ?_
  refine wl_end [(0, _), (1, _)] ⟨rfl, rfl, trivial⟩ ?_
  refine w_seq ?_
  refine w_seq ?_
  refine w_reg ?_
  refine wl_f (f_move rfl) ?_
  refine wl_f (f_neq rfl rfl) ?_
  refine wl_f (f_move rfl) ?_
  refine wl_and (j := 2) (c := decide ((mode : Int) ≠ 2)) 2 [(0, _), (1, _)] ⟨rfl, rfl, trivial⟩ rfl rfl rfl rfl rfl (fun hg1_5 => ?_) (fun w1_5 => ?_)
  · skip
    refine wl_gf rfl rfl (f_move rfl) ?_
    refine wl_gf rfl rfl (f_neq rfl rfl) ?_
    exact wl_pend rfl rfl ⟨rfl, rfl, trivial⟩ (List.Sublist.refl _)
  refine wl_end [(0, _), (1, _), (11, _)] ⟨rfl, rfl, rfl, trivial⟩ ?_
  refine w_ifb rfl (fun h => absurd h (by rcases hm with rfl | rfl <;> decide)) (fun _ => ?_)
  refine w_skip ?_
  refine w_seq ?_
  refine w_seq ?_
  refine w_reg ?_
  refine wl_f (f_move rfl) ?_
  refine wl_f (f_lss rfl rfl) ?_
  refine wl_f (f_move rfl) ?_
  refine wl_or (j := 2) (c := decide (64 < (n : Int))) 2 [(0, _), (1, _)] ⟨rfl, rfl, trivial⟩ rfl rfl rfl rfl rfl (fun hg3_5 => ?_) (fun w3_5 => ?_)
  · skip
    refine wl_gf rfl rfl (f_move rfl) ?_
    refine wl_gf rfl rfl (f_gtr rfl rfl) ?_
    exact wl_pend rfl rfl ⟨rfl, rfl, trivial⟩ (List.Sublist.refl _)
  refine wl_end [(0, _), (1, _), (17, _)] ⟨rfl, rfl, rfl, trivial⟩ ?_
  refine w_ifb rfl (fun h => absurd h (by simp; omega)) (fun _ => ?_)
  refine w_skip ?_
  refine w_seq ?_
  refine w_reg ?_
  refine wl_f (f_move rfl) ?_
  refine wl_f (f_move rfl) ?_
  refine wl_f (f_build rfl (fun w => build_rtab _ _ w)) ?_
  refine wl_e (e_box (cs := [_, _, _, _, _]) rfl rfl) ?_
  rintro _ _ w5_3 ⟨b5_3, rfl, rfl⟩
  refine wl_f (f_assign rfl) ?_
  refine wl_f (f_assign rfl) ?_
  refine wl_end [(4, _), (5, _)] ⟨rfl, rfl, trivial⟩ ?_
  refine w_nilrow 46 3 ?_
  refine w_pick [1, 0] rfl ?_
  refine w_bun (H := []) [_, _] ?_
  refine w_ret ?_
  refine ⟨_, _, fun a ha hh => results_tmps Tryz.results22 rfl a ha _, List.Sublist.refl _, ?_⟩
  exact ⟨b5_3, _, rfl, rfl, _, rfl⟩
end Go.Proofs.YtmagdjlcckgkpaaGreat

/- Tables of either mode: making one; limits; nil tables. -/
namespace Go.Proofs.YtmagdjlcckgkpaaGreat
open Go.RowKit

def tabE (mode n : Int) : Int := if mode = 1 ∨ mode = 2 then if n < 1 ∨ 64 < n then 1 else 0 else 11
theorem build_tab (ty : TypeId) (p : Option Addr) (w : World) : (Instr.build 75 [(0, .iface ty (.pointer p))].toArray).run Tryz.prog w = .ok (.agg [.iface ty (.pointer p)].toArray) w := by kernel_rfl
theorem tnew_ok (mode m : Nat) (w : World) (hmode : mode = 1 ∨ mode = 2) (h1 : 1 ≤ m) (h2 : m ≤ 64) : Spec Tryz.prog 8 [.int .i64 mode, .int .i64 m] w Nil fun r H => ∃ t r', r = .tuple [.pointer (some ⟨t, 0, .none⟩), .int .i64 0].toArray ∧ H = [r'] ∧ TbS t m (TS.new mode m) r' := by
  refine enter (n := 31) Tryz.func8 rfl rfl [(0, _), (1, _)] rfl ⟨rfl, rfl, trivial⟩ (Holds.start _ _) ?_
  refine w_seq ?_
  refine w_reg ?_
  refine wl_f (f_assign rfl) ?_
  refine wl_f (f_assign rfl) ?_
  refine wl_end [(0, _), (1, _)] ⟨rfl, rfl, trivial⟩ ?_
  refine w_seq ?_
  refine w_reg ?_
  refine wl_f (f_assign rfl) ?_
  refine wl_end [(0, _), (1, _), (6, _)] ⟨rfl, rfl, rfl, trivial⟩ ?_
  refine w_seq ?_
  refine w_reg ?_
  refine wl_f (f_assign rfl) ?_
  refine wl_end [(0, _), (1, _), (6, _)] ⟨rfl, rfl, rfl, trivial⟩ ?_
  refine w_seq ?_
  refine w_seq ?_
  refine w_reg ?_
  refine wl_f (f_move rfl) ?_
  refine wl_end [(1, _), (6, _), (8, _)] ⟨rfl, rfl, rfl, trivial⟩ ?_
  refine w_post (fun m' H w' => ∃ (b : Nat) (r' : Res) (ty : TypeId), m' = [(6, .iface ty (.pointer (some ⟨b, 0, .none⟩))), (7, .int .i64 0)] ∧ H = [r'] ∧ ∀ t, TbS t m (TS.new mode m) (bun [thd t ty b, r'])) ?_ ?_
  · skip
    refine w_block ?_
    refine w_seq ?_
    refine w_reg ?_
    refine wl_f (f_eql rfl rfl) ?_
    refine wl_f (f_assign rfl) ?_
    refine wl_end [(1, _), (6, _), (8, _), (9, _)] ⟨rfl, rfl, rfl, rfl, trivial⟩ ?_
    refine w_ifd rfl (fun hc1 => ?_) (fun hc1 => ?_)
    · skip
      have hm1 : mode = 1 := by
        have : (mode : Int) = 1 := hc1
        omega
      refine w_reg ?_
      refine wl_f (f_move rfl) ?_
      refine wl_e (e_call0 rfl Tryz.func33 (by kernel_rfl) (fun w hh => svnew_ok m w h1 h2)) ?_
      rintro _ _ w1 ⟨_, rfl, b, r', rfl, rfl, hr'⟩
      refine wl_f (f_move rfl) ?_
      refine wl_f (f_extract rfl rfl) ?_
      refine wl_f (f_iface rfl Tryz.underlying68 rfl) ?_
      refine wl_f (f_extract rfl rfl) ?_
      refine wl_f (f_assign rfl) ?_
      refine wl_f (f_assign rfl) ?_
      refine wl_end [(6, _), (7, _)] ⟨rfl, rfl, trivial⟩ ?_
      refine ⟨b, r', _, rfl, rfl, fun t => ?_⟩
      rw [TS.new, if_pos hm1]
      exact ⟨b, r', rfl, hr'⟩
    · skip
      have hm1 : mode = 2 := by
        have : ¬ (mode : Int) = 1 := hc1
        omega
      refine w_seq ?_
      refine w_reg ?_
      refine wl_f (f_eql rfl rfl) ?_
      refine wl_f (f_assign rfl) ?_
      refine wl_end [(1, _), (6, _), (17, _)] ⟨rfl, rfl, rfl, trivial⟩ ?_
      refine w_ifd rfl (fun _ => ?_) (fun h => absurd (show (mode : Int) = 2 by omega) h)
      refine w_reg ?_
      refine wl_f (f_move rfl) ?_
      refine wl_e (e_call0 rfl Tryz.func34 (by kernel_rfl) (fun w hh => frnew_ok m w h1 h2)) ?_
      rintro _ _ w1 ⟨_, rfl, b, r', rfl, rfl, hr'⟩
      refine wl_f (f_move rfl) ?_
      refine wl_f (f_extract rfl rfl) ?_
      refine wl_f (f_iface rfl Tryz.underlying71 rfl) ?_
      refine wl_f (f_extract rfl rfl) ?_
      refine wl_f (f_assign rfl) ?_
      refine wl_f (f_assign rfl) ?_
      refine wl_end [(6, _), (7, _)] ⟨rfl, rfl, trivial⟩ ?_
      refine ⟨b, r', _, rfl, rfl, fun t => ?_⟩
      rw [TS.new, if_neg (by omega)]
      exact ⟨b, r', rfl, hr'⟩
  · rintro _ _ w2 ⟨b, r', ty, rfl, rfl, hr'⟩
    refine w_seq ?_
    refine w_seq ?_
    refine w_reg ?_
    refine wl_f (f_move rfl) ?_
    refine wl_f (f_neq rfl rfl) ?_
    refine wl_end [(6, _), (7, _), (26, _)] ⟨rfl, rfl, rfl, trivial⟩ ?_
    refine w_ifd rfl (fun h => absurd rfl h) (fun _ => ?_)
    refine w_skip ?_
    refine w_seq ?_
    refine w_reg ?_
    refine wl_f (f_move rfl) ?_
    refine wl_f (f_build rfl (fun w => build_tab _ _ w)) ?_
    refine wl_e (e_box (cs := [_]) rfl rfl) ?_
    rintro _ _ w11_2 ⟨b11_2, rfl, rfl⟩
    refine wl_f (f_assign rfl) ?_
    refine wl_f (f_assign rfl) ?_
    refine wl_end [(4, _), (5, _)] ⟨rfl, rfl, trivial⟩ ?_
    refine w_bun (H := []) [thd b11_2 ty b, r'] ?_
    refine w_ret ?_
    refine ⟨_, _, fun a ha hh => results_tmps Tryz.results8 rfl a ha _, List.Sublist.refl _, ?_⟩
    exact ⟨b11_2, _, rfl, rfl, hr' _⟩
theorem svnew_form (n : Int) (w : World) : Spec Tryz.prog 33 [.int .i64 n] w Nil fun r H => ∃ (p : Option Addr), r = .tuple [.pointer p, .int .i64 (if n < 1 ∨ 64 < n then 1 else 0)].toArray ∧ p.isNone = decide (n < 1 ∨ 64 < n) := by
  by_cases h : n < 1 ∨ 64 < n
  · exact (svnew_bad n w h).mono fun v H hv => ⟨.none, by rw [hv.1, if_pos h], (decide_eq_true h).symm⟩
  · obtain ⟨k, rfl⟩ : ∃ k : Nat, n = k := ⟨n.toNat, by omega⟩
    exact (svnew_ok k w (by omega) (by omega)).mono fun v H hv => by
      obtain ⟨b, r', rfl, _⟩ := hv
      exact ⟨some ⟨b, 0, .none⟩, by rw [if_neg h], (decide_eq_false h).symm⟩
theorem frnew_form (n : Int) (w : World) : Spec Tryz.prog 34 [.int .i64 n] w Nil fun r H => ∃ (p : Option Addr), r = .tuple [.pointer p, .int .i64 (if n < 1 ∨ 64 < n then 1 else 0)].toArray ∧ p.isNone = decide (n < 1 ∨ 64 < n) := by
  by_cases h : n < 1 ∨ 64 < n
  · exact (frnew_bad n w h).mono fun v H hv => ⟨.none, by rw [hv.1, if_pos h], (decide_eq_true h).symm⟩
  · obtain ⟨k, rfl⟩ : ∃ k : Nat, n = k := ⟨n.toNat, by omega⟩
    exact (frnew_ok k w (by omega) (by omega)).mono fun v H hv => by
      obtain ⟨b, r', rfl, _⟩ := hv
      exact ⟨some ⟨b, 0, .none⟩, by rw [if_neg h], (decide_eq_false h).symm⟩
theorem tnew_form (mode n : Int) (w : World) : Spec Tryz.prog 8 [.int .i64 mode, .int .i64 n] w Nil fun r H => ∃ (p : Option Addr), r = .tuple [.pointer p, .int .i64 (tabE mode n)].toArray ∧ p.isNone = decide (tabE mode n ≠ 0) := by
  refine enter (n := 31) Tryz.func8 rfl rfl [(0, _), (1, _)] rfl ⟨rfl, rfl, trivial⟩ (Holds.start _ _) ?_
  refine w_seq ?_
  refine w_reg ?_
  refine wl_f (f_assign rfl) ?_
  refine wl_f (f_assign rfl) ?_
  refine wl_end [(0, _), (1, _)] ⟨rfl, rfl, trivial⟩ ?_
  refine w_seq ?_
  refine w_reg ?_
  refine wl_f (f_assign rfl) ?_
  refine wl_end [(0, _), (1, _), (6, _)] ⟨rfl, rfl, rfl, trivial⟩ ?_
  refine w_seq ?_
  refine w_reg ?_
  refine wl_f (f_assign rfl) ?_
  refine wl_end [(0, _), (1, _), (6, _)] ⟨rfl, rfl, rfl, trivial⟩ ?_
  refine w_seq ?_
  refine w_seq ?_
  refine w_reg ?_
  refine wl_f (f_move rfl) ?_
  refine wl_end [(1, _), (6, _), (8, _)] ⟨rfl, rfl, rfl, trivial⟩ ?_
  refine w_post (fun m' H w' => ∃ (v : Value), m' = [(6, v), (7, .int .i64 (tabE mode n))] ∧ H = [] ∧ (tabE mode n = 0 → ∃ ty p, v = .iface ty (.pointer p))) ?_ ?_
  · skip
    refine w_block ?_
    refine w_seq ?_
    refine w_reg ?_
    refine wl_f (f_eql rfl rfl) ?_
    refine wl_f (f_assign rfl) ?_
    refine wl_end [(1, _), (6, _), (8, _), (9, _)] ⟨rfl, rfl, rfl, rfl, trivial⟩ ?_
    refine w_ifd rfl (fun hc1 => ?_) (fun hc1 => ?_)
    · skip
      have he : tabE mode n = if n < 1 ∨ 64 < n then 1 else 0 := if_pos (.inl hc1)
      refine w_reg ?_
      refine wl_f (f_move rfl) ?_
      refine wl_e (e_call0 rfl Tryz.func33 (by kernel_rfl) (fun w hh => svnew_form n w)) ?_
      rintro _ _ w1 ⟨H1, rfl, p, rfl, hp⟩
      refine wl_drop _ (List.sublist_append_right _ _) ?_
      refine wl_f (f_move rfl) ?_
      refine wl_f (f_extract rfl rfl) ?_
      refine wl_f (f_iface rfl Tryz.underlying68 rfl) ?_
      refine wl_f (f_extract rfl rfl) ?_
      refine wl_f (f_assign rfl) ?_
      refine wl_f (f_assign rfl) ?_
      refine wl_end [(6, _), (7, _)] ⟨rfl, rfl, trivial⟩ ?_
      exact ⟨_, by rw [he], rfl, fun _ => ⟨_, _, rfl⟩⟩
    · skip
      refine w_seq ?_
      refine w_reg ?_
      refine wl_f (f_eql rfl rfl) ?_
      refine wl_f (f_assign rfl) ?_
      refine wl_end [(1, _), (6, _), (17, _)] ⟨rfl, rfl, rfl, trivial⟩ ?_
      refine w_ifd rfl (fun hc2 => ?_) (fun hc2 => ?_)
      · skip
        have he : tabE mode n = if n < 1 ∨ 64 < n then 1 else 0 := if_pos (.inr hc2)
        refine w_reg ?_
        refine wl_f (f_move rfl) ?_
        refine wl_e (e_call0 rfl Tryz.func34 (by kernel_rfl) (fun w hh => frnew_form n w)) ?_
        rintro _ _ w1 ⟨H1, rfl, p, rfl, hp⟩
        refine wl_drop _ (List.sublist_append_right _ _) ?_
        refine wl_f (f_move rfl) ?_
        refine wl_f (f_extract rfl rfl) ?_
        refine wl_f (f_iface rfl Tryz.underlying71 rfl) ?_
        refine wl_f (f_extract rfl rfl) ?_
        refine wl_f (f_assign rfl) ?_
        refine wl_f (f_assign rfl) ?_
        refine wl_end [(6, _), (7, _)] ⟨rfl, rfl, trivial⟩ ?_
        exact ⟨_, by rw [he], rfl, fun _ => ⟨_, _, rfl⟩⟩
      · skip
        have he : tabE mode n = 11 := if_neg (fun h => h.elim hc1 hc2)
        refine w_reg ?_
        refine wl_f (f_assign rfl) ?_
        refine wl_end [(6, _), (7, _)] ⟨rfl, rfl, trivial⟩ ?_
        exact ⟨_, by rw [he], rfl, fun h => by rw [he] at h; cases h⟩
  · rintro _ _ w2 ⟨v, rfl, rfl, hv⟩
    refine w_seq ?_
    refine w_seq ?_
    refine w_reg ?_
    refine wl_f (f_move rfl) ?_
    refine wl_f (f_neq rfl rfl) ?_
    refine wl_end [(6, _), (7, _), (26, _)] ⟨rfl, rfl, rfl, trivial⟩ ?_
    refine w_ifd rfl (fun hc3 => ?_) (fun hc3 => ?_)
    · skip
      refine w_seq ?_
      refine w_reg ?_
      refine wl_f (f_move rfl) ?_
      refine wl_f (f_assign rfl) ?_
      refine wl_f (f_assign rfl) ?_
      refine wl_end [(4, _), (5, _)] ⟨rfl, rfl, trivial⟩ ?_
      refine w_ret ?_
      refine ⟨_, _, fun a ha hh => results_tmps Tryz.results8 rfl a ha _, List.Sublist.refl _, ?_⟩
      exact ⟨.none, rfl, (decide_eq_true hc3).symm⟩
    · skip
      have h0 : tabE mode n = 0 := Classical.not_not.1 hc3
      obtain ⟨ty, p, rfl⟩ := hv h0
      refine w_skip ?_
      refine w_seq ?_
      refine w_reg ?_
      refine wl_f (f_move rfl) ?_
      refine wl_f (f_build rfl (fun w => build_tab _ _ w)) ?_
      refine wl_e (e_box (cs := [_]) rfl rfl) ?_
      rintro _ _ w11_2 ⟨b11_2, rfl, rfl⟩
      refine wl_f (f_assign rfl) ?_
      refine wl_f (f_assign rfl) ?_
      refine wl_end [(4, _), (5, _)] ⟨rfl, rfl, trivial⟩ ?_
      refine w_ret ?_
      refine ⟨_, _, fun a ha hh => results_tmps Tryz.results8 rfl a ha _, List.Sublist.refl _, ?_⟩
      exact ⟨some ⟨b11_2, 0, .none⟩, by rw [h0]; rfl, by rw [decide_eq_false hc3]; rfl⟩
theorem rnew_form (mode n : Int) (w : World) : Spec Tryz.prog 22 [.int .i64 mode, .int .i64 n] w Nil fun r H => ∃ (p : Option Addr), r = .tuple [.pointer p, .int .i64 (tabE mode n)].toArray := by
  refine enter (n := 22) Tryz.func22 rfl rfl [(0, _), (1, _)] rfl ⟨rfl, rfl, trivial⟩ (Holds.start _ _) ?_
  refine w_seq ?_
  refine w_reg ?_
  refine wl_f (f_assign rfl) ?_
  refine wl_f (f_assign rfl) ?_
  refine wl_end [(0, _), (1, _)] ⟨rfl, rfl, trivial⟩ ?_
  refine w_seq ?_
  refine w_seq ?_
  refine w_reg ?_
  refine wl_f (f_move rfl) ?_
  refine wl_f (f_neq rfl rfl) ?_
  refine wl_f (f_move rfl) ?_
  refine wl_and (j := 2) (c := decide (mode ≠ 2)) 2 [(0, _), (1, _)] ⟨rfl, rfl, trivial⟩ rfl rfl rfl rfl rfl (fun hg1_5 => ?_) (fun w1_5 => ?_)
  · skip
    refine wl_gf rfl rfl (f_move rfl) ?_
    refine wl_gf rfl rfl (f_neq rfl rfl) ?_
    exact wl_pend rfl rfl ⟨rfl, rfl, trivial⟩ (List.Sublist.refl _)
  refine wl_end [(0, _), (1, _), (11, _)] ⟨rfl, rfl, rfl, trivial⟩ ?_
  refine w_ifb rfl (fun hc1 => ?_) (fun hc1 => ?_)
  · skip
    have he : tabE mode n = 11 := by
      simp only [Bool.and_eq_true, decide_eq_true_eq] at hc1
      exact if_neg (fun h => h.elim hc1.1 hc1.2)
    refine w_seq ?_
    refine w_reg ?_
    refine wl_f (f_assign rfl) ?_
    refine wl_f (f_assign rfl) ?_
    refine wl_end [(4, _), (5, _)] ⟨rfl, rfl, trivial⟩ ?_
    refine w_ret ?_
    refine ⟨_, _, fun a ha hh => results_tmps Tryz.results22 rfl a ha _, List.Sublist.refl _, ?_⟩
    exact ⟨.none, by rw [he]; rfl⟩
  · skip
    have hm : mode = 1 ∨ mode = 2 := by
      simp only [Bool.and_eq_true, decide_eq_true_eq] at hc1
      omega
    refine w_skip ?_
    refine w_seq ?_
    refine w_seq ?_
    refine w_reg ?_
    refine wl_f (f_move rfl) ?_
    refine wl_f (f_lss rfl rfl) ?_
    refine wl_f (f_move rfl) ?_
    refine wl_or (j := 2) (c := decide (64 < n)) 2 [(0, _), (1, _)] ⟨rfl, rfl, trivial⟩ rfl rfl rfl rfl rfl (fun hg3_5 => ?_) (fun w3_5 => ?_)
    · skip
      refine wl_gf rfl rfl (f_move rfl) ?_
      refine wl_gf rfl rfl (f_gtr rfl rfl) ?_
      exact wl_pend rfl rfl ⟨rfl, rfl, trivial⟩ (List.Sublist.refl _)
    refine wl_end [(0, _), (1, _), (17, _)] ⟨rfl, rfl, rfl, trivial⟩ ?_
    refine w_ifb rfl (fun hc2 => ?_) (fun hc2 => ?_)
    · skip
      have he : tabE mode n = 1 := (if_pos hm).trans (if_pos (by simpa [Bool.or_eq_true] using hc2))
      refine w_seq ?_
      refine w_reg ?_
      refine wl_f (f_assign rfl) ?_
      refine wl_f (f_assign rfl) ?_
      refine wl_end [(4, _), (5, _)] ⟨rfl, rfl, trivial⟩ ?_
      refine w_ret ?_
      refine ⟨_, _, fun a ha hh => results_tmps Tryz.results22 rfl a ha _, List.Sublist.refl _, ?_⟩
      exact ⟨.none, by rw [he]; rfl⟩
    · skip
      have he : tabE mode n = 0 := (if_pos hm).trans (if_neg (by simpa [Bool.or_eq_true] using hc2))
      refine w_skip ?_
      refine w_seq ?_
      refine w_reg ?_
      refine wl_f (f_move rfl) ?_
      refine wl_f (f_move rfl) ?_
      refine wl_f (f_build rfl (fun w => build_rtab _ _ w)) ?_
      refine wl_e (e_box (cs := [_, _, _, _, _]) rfl rfl) ?_
      rintro _ _ w5_3 ⟨b5_3, rfl, rfl⟩
      refine wl_f (f_assign rfl) ?_
      refine wl_f (f_assign rfl) ?_
      refine wl_end [(4, _), (5, _)] ⟨rfl, rfl, trivial⟩ ?_
      refine w_ret ?_
      refine ⟨_, _, fun a ha hh => results_tmps Tryz.results22 rfl a ha _, List.Sublist.refl _, ?_⟩
      exact ⟨some ⟨b5_3, 0, .none⟩, by rw [he]; rfl⟩
def tabL (mode n : Int) (total : Nat) : Nat := if n < 1 ∨ 64 < n then total else if mode = 1 then total / n.toNat else if mode = 2 then total / (n.toNat + 1) else total
theorem share_spec (total parts : Nat) (w : World) (ht : total < 18446744073709551616) (hp : 1 ≤ parts) (hp2 : parts ≤ 65) : Spec Tryz.prog 37 [.int .u64 (total : Int), .int .i64 (parts : Int)] w Nil fun r H => r = .int .u64 ((total / parts : Nat) : Int) ∧ H = [] := by
  refine enter (n := 12) Tryz.func37 rfl rfl [(0, _), (1, _)] rfl ⟨rfl, rfl, trivial⟩ (Holds.start _ _) ?_
  refine w_seq ?_
  refine w_reg ?_
  refine wl_f (f_assign rfl) ?_
  refine wl_end [(0, _), (1, _)] ⟨rfl, rfl, trivial⟩ ?_
  refine w_seq ?_
  refine w_seq ?_
  refine w_reg ?_
  refine wl_f (f_move rfl) ?_
  refine wl_f (f_lss rfl rfl) ?_
  refine wl_end [(0, _), (1, _), (6, _)] ⟨rfl, rfl, rfl, trivial⟩ ?_
  refine w_ifd rfl (fun h => absurd (show (parts : Int) < 1 from h) (by omega)) (fun _ => ?_)
  refine w_skip ?_
  refine w_seq ?_
  refine w_reg ?_
  refine wl_f (f_move rfl) ?_
  refine wl_f (f_move rfl) ?_
  refine wl_f (f_convu rfl Tryz.underlying3 Tryz.underlying33 (by omega)) ?_
  refine wl_f (f_quou rfl rfl (by omega)) ?_
  refine wl_f (f_assign rfl) ?_
  refine wl_end [(4, _)] ⟨rfl, trivial⟩ ?_
  refine w_ret ?_
  refine ⟨_, _, fun a ha hh => results_tmps Tryz.results37 rfl a ha _, List.Sublist.refl _, ?_⟩
  exact ⟨by rw [Int.natCast_ediv]; rfl, rfl⟩
theorem tlimit_spec (mode n : Int) (total : Nat) (w : World) (ht : total < 18446744073709551616) : Spec Tryz.prog 21 [.int .i64 mode, .int .i64 n, .int .u64 (total : Int)] w Nil fun r H => r = .int .u64 (tabL mode n total : Nat) ∧ H = [] := by
  refine enter (n := 27) Tryz.func21 rfl rfl [(0, _), (1, _), (2, _)] rfl ⟨rfl, rfl, rfl, trivial⟩ (Holds.start _ _) ?_
  refine w_seq ?_
  refine w_reg ?_
  refine wl_f (f_assign rfl) ?_
  refine wl_end [(0, _), (1, _), (2, _)] ⟨rfl, rfl, rfl, trivial⟩ ?_
  refine w_seq ?_
  refine w_seq ?_
  refine w_reg ?_
  refine wl_f (f_move rfl) ?_
  refine wl_f (f_lss rfl rfl) ?_
  refine wl_f (f_move rfl) ?_
  refine wl_or (j := 2) (c := decide (64 < n)) 2 [(0, _), (1, _), (2, _)] ⟨rfl, rfl, rfl, trivial⟩ rfl rfl rfl rfl rfl (fun hg1_5 => ?_) (fun w1_5 => ?_)
  · skip
    refine wl_gf rfl rfl (f_move rfl) ?_
    refine wl_gf rfl rfl (f_gtr rfl rfl) ?_
    exact wl_pend rfl rfl ⟨rfl, rfl, rfl, trivial⟩ (List.Sublist.refl _)
  refine wl_end [(0, _), (1, _), (2, _), (12, _)] ⟨rfl, rfl, rfl, rfl, trivial⟩ ?_
  refine w_ifb rfl (fun hc1 => ?_) (fun hc1 => ?_)
  · skip
    have h : n < 1 ∨ 64 < n := by simpa [Bool.or_eq_true] using hc1
    refine w_seq ?_
    refine w_reg ?_
    refine wl_f (f_move rfl) ?_
    refine wl_f (f_assign rfl) ?_
    refine wl_end [(6, _)] ⟨rfl, trivial⟩ ?_
    refine w_ret ?_
    refine ⟨_, _, fun a ha hh => results_tmps Tryz.results21 rfl a ha _, List.Sublist.refl _, ?_⟩
    have e : tabL mode n total = total := if_pos h
    rw [e]; exact ⟨rfl, rfl⟩
  · skip
    have h : ¬ (n < 1 ∨ 64 < n) := by simpa [Bool.or_eq_true] using hc1
    obtain ⟨k, rfl⟩ : ∃ k : Nat, n = k := ⟨n.toNat, by omega⟩
    refine w_skip ?_
    refine w_seq ?_
    refine w_seq ?_
    refine w_reg ?_
    refine wl_f (f_move rfl) ?_
    refine wl_end [(1, _), (2, _), (14, _)] ⟨rfl, rfl, rfl, trivial⟩ ?_
    refine w_block ?_
    refine w_seq ?_
    refine w_reg ?_
    refine wl_f (f_eql rfl rfl) ?_
    refine wl_f (f_assign rfl) ?_
    refine wl_end [(1, _), (2, _), (14, _), (15, _)] ⟨rfl, rfl, rfl, rfl, trivial⟩ ?_
    refine w_ifd rfl (fun hc2 => ?_) (fun hc2 => ?_)
    · skip
      refine w_seq ?_
      refine w_reg ?_
      refine wl_f (f_move rfl) ?_
      refine wl_f (f_move rfl) ?_
      refine wl_e (e_call0 rfl Tryz.func37 (by kernel_rfl) (fun w hh => share_spec total k w ht (by omega) (by omega))) ?_
      rintro _ _ w1 ⟨_, rfl, rfl, rfl⟩
      refine wl_f (f_assign rfl) ?_
      refine wl_end [(6, _)] ⟨rfl, trivial⟩ ?_
      refine w_ret ?_
      refine ⟨_, _, fun a ha hh => results_tmps Tryz.results21 rfl a ha _, List.Sublist.refl _, ?_⟩
      have e : tabL mode k total = total / k := (if_neg h).trans (if_pos hc2)
      rw [e]; exact ⟨rfl, rfl⟩
    · skip
      refine w_seq ?_
      refine w_reg ?_
      refine wl_f (f_eql rfl rfl) ?_
      refine wl_f (f_assign rfl) ?_
      refine wl_end [(1, _), (2, _), (20, _)] ⟨rfl, rfl, rfl, trivial⟩ ?_
      refine w_ifd rfl (fun hc3 => ?_) (fun hc3 => ?_)
      · skip
        refine w_seq ?_
        refine w_reg ?_
        refine wl_f (f_move rfl) ?_
        refine wl_f (f_move rfl) ?_
        refine wl_f (f_eqv (v' := .int .i64 ((k + 1 : Nat) : Int)) (f_add rfl rfl (by omega)) (by congr 1)) ?_
        refine wl_e (e_call0 rfl Tryz.func37 (by kernel_rfl) (fun w hh => share_spec total (k + 1) w ht (by omega) (by omega))) ?_
        rintro _ _ w1 ⟨_, rfl, rfl, rfl⟩
        refine wl_f (f_assign rfl) ?_
        refine wl_end [(6, _)] ⟨rfl, trivial⟩ ?_
        refine w_ret ?_
        refine ⟨_, _, fun a ha hh => results_tmps Tryz.results21 rfl a ha _, List.Sublist.refl _, ?_⟩
        have e : tabL mode k total = total / (k + 1) := (if_neg h).trans ((if_neg hc2).trans (if_pos hc3))
        rw [e]; exact ⟨rfl, rfl⟩
      · skip
        refine w_skip ?_
        refine w_seq ?_
        refine w_reg ?_
        refine wl_f (f_move rfl) ?_
        refine wl_f (f_assign rfl) ?_
        refine wl_end [(6, _)] ⟨rfl, trivial⟩ ?_
        refine w_ret ?_
        refine ⟨_, _, fun a ha hh => results_tmps Tryz.results21 rfl a ha _, List.Sublist.refl _, ?_⟩
        have e : tabL mode k total = total := (if_neg h).trans ((if_neg hc2).trans (if_neg hc3))
        rw [e]; exact ⟨rfl, rfl⟩
theorem awake15_spec (w : World) : Spec Tryz.prog 13 [] w Nil fun r H => r = .bool true := by
  refine enter (n := 15) Tryz.func13 rfl rfl [] rfl trivial (Holds.start _ _) ?_
  refine w_seq ?_
  refine w_reg ?_
  refine wl_f (f_assign rfl) ?_
  refine wl_end [] trivial ?_
  refine w_seq ?_
  refine w_reg ?_
  refine wl_e (e_call0 rfl Tryz.func21 (by kernel_rfl) (fun w hh => tlimit_spec 1 4 10 w (by omega))) ?_
  rintro _ _ w1 ⟨_, rfl, rfl, rfl⟩
  refine wl_f (f_eql rfl rfl) ?_
  refine wl_f (f_move rfl) ?_
  refine wl_and (j := 2) (c := true) 2 [] trivial rfl rfl rfl rfl rfl (fun hg1_5 => ?_) (fun w1_5 => ?_)
  · skip
    refine wl_ge rfl rfl (e_call0 rfl Tryz.func21 (by kernel_rfl) (fun w hh => tlimit_spec 2 4 10 w (by omega))) ?_
    rintro _ _ w2 ⟨_, rfl, rfl, rfl⟩
    refine wl_gf rfl rfl (f_eql rfl rfl) ?_
    exact wl_pend rfl rfl trivial (List.Sublist.refl _)
  refine wl_f (f_move rfl) ?_
  refine wl_and (j := 6) (c := true) 2 [] trivial rfl rfl rfl rfl rfl (fun hg1_9 => ?_) (fun w1_9 => ?_)
  · skip
    refine wl_ge rfl rfl (e_call0 rfl Tryz.func21 (by kernel_rfl) (fun w hh => tlimit_spec 1 4 12 w (by omega))) ?_
    rintro _ _ w3 ⟨_, rfl, rfl, rfl⟩
    refine wl_gf rfl rfl (f_eql rfl rfl) ?_
    exact wl_pend rfl rfl trivial (List.Sublist.refl _)
  refine wl_f (f_move rfl) ?_
  refine wl_and (j := 10) (c := true) 2 [] trivial rfl rfl rfl rfl rfl (fun hg1_13 => ?_) (fun w1_13 => ?_)
  · skip
    refine wl_ge rfl rfl (e_call0 rfl Tryz.func21 (by kernel_rfl) (fun w hh => tlimit_spec 2 4 12 w (by omega))) ?_
    rintro _ _ w4 ⟨_, rfl, rfl, rfl⟩
    refine wl_gf rfl rfl (f_eql rfl rfl) ?_
    exact wl_pend rfl rfl trivial (List.Sublist.refl _)
  refine wl_f (f_assign rfl) ?_
  refine wl_end [(0, _)] ⟨rfl, trivial⟩ ?_
  refine w_ret ?_
  refine ⟨_, _, fun a ha hh => results_tmps Tryz.results13 rfl a ha _, List.Sublist.refl _, ?_⟩
  rfl
theorem tuntracked_nil (w : World) : Spec Tryz.prog 15 [.pointer .none] w Nil fun r H => r = .int .u64 0 := by
  refine enter (n := 10) Tryz.func15 rfl rfl [(0, _)] rfl ⟨rfl, trivial⟩ (Holds.start _ _) ?_
  refine w_seq ?_
  refine w_reg ?_
  refine wl_f (f_assign rfl) ?_
  refine wl_end [(0, _)] ⟨rfl, trivial⟩ ?_
  refine w_seq ?_
  refine w_seq ?_
  refine w_reg ?_
  refine wl_f (f_move rfl) ?_
  refine wl_f (f_eqlnil rfl rfl Tryz.underlying24) ?_
  refine wl_end [(0, _), (4, _)] ⟨rfl, rfl, trivial⟩ ?_
  refine w_ift rfl ?_
  refine w_seq ?_
  refine w_reg ?_
  refine wl_f (f_assign rfl) ?_
  refine wl_end [(2, _)] ⟨rfl, trivial⟩ ?_
  refine w_ret ?_
  refine ⟨_, _, fun a ha hh => results_tmps Tryz.results15 rfl a ha _, List.Sublist.refl _, ?_⟩
  rfl
theorem ttotal_nil (w : World) : Spec Tryz.prog 16 [.pointer .none] w Nil fun r H => r = .int .u64 0 := by
  refine enter (n := 10) Tryz.func16 rfl rfl [(0, _)] rfl ⟨rfl, trivial⟩ (Holds.start _ _) ?_
  refine w_seq ?_
  refine w_reg ?_
  refine wl_f (f_assign rfl) ?_
  refine wl_end [(0, _)] ⟨rfl, trivial⟩ ?_
  refine w_seq ?_
  refine w_seq ?_
  refine w_reg ?_
  refine wl_f (f_move rfl) ?_
  refine wl_f (f_eqlnil rfl rfl Tryz.underlying24) ?_
  refine wl_end [(0, _), (4, _)] ⟨rfl, rfl, trivial⟩ ?_
  refine w_ift rfl ?_
  refine w_seq ?_
  refine w_reg ?_
  refine wl_f (f_assign rfl) ?_
  refine wl_end [(2, _)] ⟨rfl, trivial⟩ ?_
  refine w_ret ?_
  refine ⟨_, _, fun a ha hh => results_tmps Tryz.results16 rfl a ha _, List.Sublist.refl _, ?_⟩
  rfl
theorem tlen_nil (w : World) : Spec Tryz.prog 25 [.pointer .none] w Nil fun r H => r = .int .i64 0 := by
  refine enter (n := 10) Tryz.func25 rfl rfl [(0, _)] rfl ⟨rfl, trivial⟩ (Holds.start _ _) ?_
  refine w_seq ?_
  refine w_reg ?_
  refine wl_f (f_assign rfl) ?_
  refine wl_end [(0, _)] ⟨rfl, trivial⟩ ?_
  refine w_seq ?_
  refine w_seq ?_
  refine w_reg ?_
  refine wl_f (f_move rfl) ?_
  refine wl_f (f_eqlnil rfl rfl Tryz.underlying24) ?_
  refine wl_end [(0, _), (4, _)] ⟨rfl, rfl, trivial⟩ ?_
  refine w_ift rfl ?_
  refine w_seq ?_
  refine w_reg ?_
  refine wl_f (f_assign rfl) ?_
  refine wl_end [(2, _)] ⟨rfl, trivial⟩ ?_
  refine w_ret ?_
  refine ⟨_, _, fun a ha hh => results_tmps Tryz.results25 rfl a ha _, List.Sublist.refl _, ?_⟩
  rfl
theorem tentries_nil (w : World) : Spec Tryz.prog 14 [.pointer .none] w Nil fun r H => r = .slice .none 0 0 := by
  refine enter (n := 10) Tryz.func14 rfl rfl [(0, _)] rfl ⟨rfl, trivial⟩ (Holds.start _ _) ?_
  refine w_seq ?_
  refine w_reg ?_
  refine wl_f (f_assign rfl) ?_
  refine wl_end [(0, _)] ⟨rfl, trivial⟩ ?_
  refine w_seq ?_
  refine w_seq ?_
  refine w_reg ?_
  refine wl_f (f_move rfl) ?_
  refine wl_f (f_eqlnil rfl rfl Tryz.underlying24) ?_
  refine wl_end [(0, _), (4, _)] ⟨rfl, rfl, trivial⟩ ?_
  refine w_ift rfl ?_
  refine w_seq ?_
  refine w_reg ?_
  refine wl_f (f_assign rfl) ?_
  refine wl_end [(2, _)] ⟨rfl, trivial⟩ ?_
  refine w_ret ?_
  refine ⟨_, _, fun a ha hh => results_tmps Tryz.results14 rfl a ha _, List.Sublist.refl _, ?_⟩
  rfl
theorem tadd_nil (k : ByteArray) (v : Int) (w : World) : Spec Tryz.prog 11 [.pointer .none, .string k, .int .u64 v] w Nil fun r H => r = .int .i64 8 := by
  refine enter (n := 16) Tryz.func11 rfl rfl [(0, _), (1, _), (2, _)] rfl ⟨rfl, rfl, rfl, trivial⟩ (Holds.start _ _) ?_
  refine w_seq ?_
  refine w_reg ?_
  refine wl_f (f_assign rfl) ?_
  refine wl_end [(0, _), (1, _), (2, _)] ⟨rfl, rfl, rfl, trivial⟩ ?_
  refine w_seq ?_
  refine w_seq ?_
  refine w_reg ?_
  refine wl_f (f_move rfl) ?_
  refine wl_f (f_eqlnil rfl rfl Tryz.underlying24) ?_
  refine wl_end [(0, _), (1, _), (2, _), (8, _)] ⟨rfl, rfl, rfl, rfl, trivial⟩ ?_
  refine w_ift rfl ?_
  refine w_seq ?_
  refine w_reg ?_
  refine wl_f (f_assign rfl) ?_
  refine wl_end [(6, _)] ⟨rfl, trivial⟩ ?_
  refine w_ret ?_
  refine ⟨_, _, fun a ha hh => results_tmps Tryz.results11 rfl a ha _, List.Sublist.refl _, ?_⟩
  rfl
theorem tget_nil (k : ByteArray) (w : World) : Spec Tryz.prog 24 [.pointer .none, .string k] w Nil fun v H => v = .tuple [enZ, .bool false].toArray := by
  refine enter (n := 17) Tryz.func24 rfl rfl [(0, _), (1, _)] rfl ⟨rfl, rfl, trivial⟩ (Holds.start _ _) ?_
  refine w_seq ?_
  refine w_reg ?_
  refine wl_e (e_allocs [.string ByteArray.empty, .int .u64 0, .int .u64 0] (by kernel_rfl)) ?_
  rintro _ _ w0_0 ⟨b0_0, rfl, rfl⟩
  refine wl_f (f_assign rfl) ?_
  refine wl_end [(0, _), (1, _), (4, _)] ⟨rfl, rfl, rfl, trivial⟩ ?_
  refine w_seq ?_
  refine w_seq ?_
  refine w_reg ?_
  refine wl_f (f_move rfl) ?_
  refine wl_f (f_eqlnil rfl rfl Tryz.underlying24) ?_
  refine wl_end [(0, _), (1, _), (4, _), (7, _)] ⟨rfl, rfl, rfl, rfl, trivial⟩ ?_
  refine w_ift rfl ?_
  refine w_seq ?_
  refine w_reg ?_
  refine wl_f (f_build rfl build_entry0) ?_
  (first | refine wl_e0 (e_store0 (us := [_, _, _]) rfl rfl rfl (by kernel_rfl) (by simp [Value.oneCell']) rfl rfl) ?_ | refine wl_e0 (e_store1 (us := [_, _, _]) rfl rfl rfl (by kernel_rfl) (by simp [Value.oneCell']) rfl rfl) ?_ | refine wl_e0 (e_store2 (us := [_, _, _]) rfl rfl rfl (by kernel_rfl) (by simp [Value.oneCell']) rfl rfl) ?_ | refine wl_e0 (e_store3 (us := [_, _, _]) rfl rfl rfl (by kernel_rfl) (by simp [Value.oneCell']) rfl rfl) ?_)
  rintro _ _ w2_1 rfl
  refine wl_f (f_assign rfl) ?_
  refine wl_end [(4, _), (5, _)] ⟨rfl, rfl, trivial⟩ ?_
  refine w_ret ?_
  refine ⟨_, _, fun a ha hh => results_mix Tryz.results24 (rm_cell (cell_agg 0 rfl Tryz.underlying46 rfl (by kernel_rfl) rfl) (rm_tmp rfl rm_nil)) a ha _ hh, List.nil_sublist _, ?_⟩
  rfl
theorem ttake_nil (k : ByteArray) (w : World) : Spec Tryz.prog 17 [.pointer .none, .string k] w Nil fun v H => v = .tuple [enZ, .bool false].toArray := by
  refine enter (n := 17) Tryz.func17 rfl rfl [(0, _), (1, _)] rfl ⟨rfl, rfl, trivial⟩ (Holds.start _ _) ?_
  refine w_seq ?_
  refine w_reg ?_
  refine wl_e (e_allocs [.string ByteArray.empty, .int .u64 0, .int .u64 0] (by kernel_rfl)) ?_
  rintro _ _ w0_0 ⟨b0_0, rfl, rfl⟩
  refine wl_f (f_assign rfl) ?_
  refine wl_end [(0, _), (1, _), (4, _)] ⟨rfl, rfl, rfl, trivial⟩ ?_
  refine w_seq ?_
  refine w_seq ?_
  refine w_reg ?_
  refine wl_f (f_move rfl) ?_
  refine wl_f (f_eqlnil rfl rfl Tryz.underlying24) ?_
  refine wl_end [(0, _), (1, _), (4, _), (7, _)] ⟨rfl, rfl, rfl, rfl, trivial⟩ ?_
  refine w_ift rfl ?_
  refine w_seq ?_
  refine w_reg ?_
  refine wl_f (f_build rfl build_entry0) ?_
  (first | refine wl_e0 (e_store0 (us := [_, _, _]) rfl rfl rfl (by kernel_rfl) (by simp [Value.oneCell']) rfl rfl) ?_ | refine wl_e0 (e_store1 (us := [_, _, _]) rfl rfl rfl (by kernel_rfl) (by simp [Value.oneCell']) rfl rfl) ?_ | refine wl_e0 (e_store2 (us := [_, _, _]) rfl rfl rfl (by kernel_rfl) (by simp [Value.oneCell']) rfl rfl) ?_ | refine wl_e0 (e_store3 (us := [_, _, _]) rfl rfl rfl (by kernel_rfl) (by simp [Value.oneCell']) rfl rfl) ?_)
  rintro _ _ w2_1 rfl
  refine wl_f (f_assign rfl) ?_
  refine wl_end [(4, _), (5, _)] ⟨rfl, rfl, trivial⟩ ?_
  refine w_ret ?_
  refine ⟨_, _, fun a ha hh => results_mix Tryz.results17 (rm_cell (cell_agg 0 rfl Tryz.underlying46 rfl (by kernel_rfl) rfl) (rm_tmp rfl rm_nil)) a ha _ hh, List.nil_sublist _, ?_⟩
  rfl
theorem tswap_nil (k x : ByteArray) (o s : Int) (w : World) : Spec Tryz.prog 20 [.pointer .none, .string k, .agg #[.string x, .int .u64 o, .int .u64 s]] w Nil fun v H => v = .tuple [enZ, .int .i64 8].toArray := by
  refine enter (n := 20) Tryz.func20 rfl rfl [(0, _), (1, _), (2, _)] rfl ⟨rfl, rfl, rfl, trivial⟩ (Holds.start _ _) ?_
  refine w_seq ?_
  refine w_reg ?_
  refine wl_e (e_box (cs := [_, _, _]) rfl rfl) ?_
  rintro _ _ w0_0 ⟨b0_0, rfl, rfl⟩
  refine wl_e (e_allocs [.string ByteArray.empty, .int .u64 0, .int .u64 0] (by kernel_rfl)) ?_
  rintro _ _ w0_1 ⟨b0_1, rfl, rfl⟩
  refine wl_f (f_assign rfl) ?_
  refine wl_end [(0, _), (1, _), (5, _), (6, _)] ⟨rfl, rfl, rfl, rfl, trivial⟩ ?_
  refine w_seq ?_
  refine w_seq ?_
  refine w_reg ?_
  refine wl_f (f_move rfl) ?_
  refine wl_f (f_eqlnil rfl rfl Tryz.underlying24) ?_
  refine wl_end [(0, _), (1, _), (5, _), (6, _), (9, _)] ⟨rfl, rfl, rfl, rfl, rfl, trivial⟩ ?_
  refine w_ift rfl ?_
  refine w_seq ?_
  refine w_reg ?_
  refine wl_f (f_build rfl build_entry0) ?_
  (first | refine wl_e0 (e_store0 (us := [_, _, _]) rfl rfl rfl (by kernel_rfl) (by simp [Value.oneCell']) rfl rfl) ?_ | refine wl_e0 (e_store1 (us := [_, _, _]) rfl rfl rfl (by kernel_rfl) (by simp [Value.oneCell']) rfl rfl) ?_ | refine wl_e0 (e_store2 (us := [_, _, _]) rfl rfl rfl (by kernel_rfl) (by simp [Value.oneCell']) rfl rfl) ?_ | refine wl_e0 (e_store3 (us := [_, _, _]) rfl rfl rfl (by kernel_rfl) (by simp [Value.oneCell']) rfl rfl) ?_)
  rintro _ _ w2_1 rfl
  refine wl_f (f_assign rfl) ?_
  refine wl_end [(6, _), (7, _)] ⟨rfl, rfl, trivial⟩ ?_
  refine w_ret ?_
  refine ⟨_, _, fun a ha hh => results_mix Tryz.results20 (rm_cell (cell_agg 0 rfl Tryz.underlying46 rfl (by kernel_rfl) rfl) (rm_tmp rfl rm_nil)) a ha _ hh, List.nil_sublist _, ?_⟩
  rfl
theorem tbounds_nil (k : ByteArray) (w : World) : Spec Tryz.prog 12 [.pointer .none, .string k] w Nil fun v H => v = .tuple [bnV 0 0, .bool false].toArray := by
  refine enter (n := 42) Tryz.func12 rfl rfl [(0, _), (1, _)] rfl ⟨rfl, rfl, trivial⟩ (Holds.start _ _) ?_
  refine w_seq ?_
  refine w_reg ?_
  refine wl_e (e_allocs [.int .u64 0, .int .u64 0] (by kernel_rfl)) ?_
  rintro _ _ w0_0 ⟨b0_0, rfl, rfl⟩
  refine wl_f (f_assign rfl) ?_
  refine wl_end [(0, _), (1, _), (4, _)] ⟨rfl, rfl, rfl, trivial⟩ ?_
  refine w_seq ?_
  refine w_seq ?_
  refine w_reg ?_
  refine wl_f (f_move rfl) ?_
  refine wl_f (f_eqlnil rfl rfl Tryz.underlying24) ?_
  refine wl_end [(0, _), (1, _), (4, _), (11, _)] ⟨rfl, rfl, rfl, rfl, trivial⟩ ?_
  refine w_ift rfl ?_
  refine w_seq ?_
  refine w_reg ?_
  refine wl_f (f_build rfl (fun w => build_bounds0 w)) ?_
  (first | refine wl_e0 (e_store0 (us := [_, _]) rfl rfl rfl (by kernel_rfl) (by simp [Value.oneCell']) rfl rfl) ?_ | refine wl_e0 (e_store1 (us := [_, _]) rfl rfl rfl (by kernel_rfl) (by simp [Value.oneCell']) rfl rfl) ?_ | refine wl_e0 (e_store2 (us := [_, _]) rfl rfl rfl (by kernel_rfl) (by simp [Value.oneCell']) rfl rfl) ?_ | refine wl_e0 (e_store3 (us := [_, _]) rfl rfl rfl (by kernel_rfl) (by simp [Value.oneCell']) rfl rfl) ?_)
  rintro _ _ w2_1 rfl
  refine wl_f (f_assign rfl) ?_
  refine wl_end [(4, _), (5, _)] ⟨rfl, rfl, trivial⟩ ?_
  refine w_ret ?_
  refine ⟨_, _, fun a ha hh => results_mix Tryz.results12 (rm_cell (cell_agg 0 rfl Tryz.underlying36 rfl (by kernel_rfl) rfl) (rm_tmp rfl rm_nil)) a ha _ hh, List.nil_sublist _, ?_⟩
  rfl
end Go.Proofs.YtmagdjlcckgkpaaGreat

/- The order of a table's entries against the reference's list, plain. -/
namespace Go.Proofs.YtmagdjlcckgkpaaGreat
open Go.RowKit

def cnt (x : En) : Nat := x.2.1 + x.2.2
def insE : List En → En → List En
  | [], x => [x]
  | p :: l, x => if cnt p ≤ cnt x then p :: insE l x else x :: p :: l
def isort (L : List En) : List En := L.foldl insE []
def remE (l : List En) (k : ByteArray) : List En := l.filter fun x => !decide (x.1 = k)
def Asc (l : List En) : Prop := l.Pairwise fun a b => cnt a ≤ cnt b
theorem isort_snoc (L : List En) (x : En) : isort (L ++ [x]) = insE (isort L) x := by rw [isort, List.foldl_append]; rfl
theorem insE_perm (l : List En) (x : En) : (insE l x).Perm (x :: l) := by
  induction l with
  | nil => exact List.Perm.refl _
  | cons p l ih =>
    rw [insE]
    split
    · exact (ih.cons p).trans (List.Perm.swap ..)
    · exact List.Perm.refl _
theorem insE_asc {l : List En} (x : En) (h : Asc l) : Asc (insE l x) := by
  induction l with
  | nil => exact List.pairwise_singleton ..
  | cons p l ih =>
    obtain ⟨h1, h2⟩ := List.pairwise_cons.1 h
    rw [insE]
    split
    · rename_i hc
      refine List.pairwise_cons.2 ⟨fun y hy => ?_, ih h2⟩
      rcases List.mem_cons.1 ((insE_perm l x).mem_iff.1 hy) with rfl | hy
      · exact hc
      · exact h1 y hy
    · rename_i hc
      refine List.pairwise_cons.2 ⟨fun y hy => ?_, h⟩
      rcases List.mem_cons.1 hy with rfl | hy
      · omega
      · have := h1 y hy; omega
theorem foldl_perm : ∀ (L acc : List En), (L.foldl insE acc).Perm (acc ++ L)
  | [], acc => by simp
  | x :: L, acc => by
    rw [List.foldl_cons]
    refine (foldl_perm L _).trans ?_
    refine ((insE_perm acc x).append_right L).trans ?_
    exact List.perm_middle.symm
theorem isort_perm (L : List En) : (isort L).Perm L := (foldl_perm L []).trans (List.Perm.refl _)
theorem snoc_ind {P : List En → Prop} (h0 : P []) (h1 : ∀ L x, P L → P (L ++ [x])) (L : List En) : P L := by
  have : ∀ R : List En, P R.reverse := by
    intro R
    induction R with
    | nil => exact h0
    | cons x R ih => rw [List.reverse_cons]; exact h1 _ _ ih
  have h := this L.reverse
  rwa [List.reverse_reverse] at h
theorem isort_asc (L : List En) : Asc (isort L) := snoc_ind (P := fun L => Asc (isort L)) List.Pairwise.nil (fun L x h => by rw [isort_snoc]; exact insE_asc x h) L
theorem remE_none {l : List En} {k : ByteArray} (h : k ∉ eks l) : remE l k = l := by
  refine List.filter_eq_self.2 fun x hx => ?_
  have : x.1 ≠ k := fun e => h (e ▸ eks_mem hx)
  simp [this]
theorem remE_ins_self {l : List En} {x : En} (h : x.1 ∉ eks l) : remE (insE l x) x.1 = l := by
  induction l with
  | nil => simp [insE, remE]
  | cons p l ih =>
    have h1 : ¬ p.1 = x.1 := fun e => h (by simp [eks, e])
    have h2 : x.1 ∉ eks l := fun e => h (by simp only [eks, List.map_cons, List.mem_cons]; exact .inr e)
    rw [insE]
    split
    · rw [remE, List.filter_cons_of_pos (by simp [h1])]
      exact congrArg _ (ih h2)
    · rw [remE, List.filter_cons_of_neg (by simp)]
      exact remE_none h
theorem insE_front {l : List En} {y : En} (h : ∀ p ∈ l, cnt y < cnt p) : insE l y = y :: l := by
  cases l with
  | nil => rfl
  | cons p l => rw [insE, if_neg (by have := h p (List.mem_cons_self ..); omega)]
theorem remE_ins {l : List En} {k : ByteArray} {y : En} (ha : Asc l) (hy : y.1 ≠ k) : remE (insE l y) k = insE (remE l k) y := by
  induction l with
  | nil => simp [insE, remE, hy]
  | cons p l ih =>
    obtain ⟨h1, h2⟩ := List.pairwise_cons.1 ha
    have ih := ih h2
    rw [insE]
    split
    · rename_i hc
      by_cases hp : p.1 = k
      · rw [remE, List.filter_cons_of_neg (by simp [hp]), remE, List.filter_cons_of_neg (by simp [hp])]
        exact ih
      · rw [remE, List.filter_cons_of_pos (by simp [hp]), remE, List.filter_cons_of_pos (by simp [hp]), insE, if_pos hc]
        exact congrArg _ ih
    · rename_i hc
      rw [insE_front (l := remE (p :: l) k) (fun q hq => ?_)]
      · rw [remE, List.filter_cons_of_pos (by simp [hy])]; rfl
      · have hq := (List.mem_filter.1 hq).1
        rcases List.mem_cons.1 hq with rfl | hq
        · omega
        · have := h1 q hq; omega
/-- Taking one out of the list takes it out of the sorted list. -/
theorem isort_rem {A : List En} {x : En} (hA : x.1 ∉ eks A) (B : List En) : x.1 ∉ eks B → isort (A ++ B) = remE (isort (A ++ x :: B)) x.1 := by
  refine snoc_ind (P := fun B => x.1 ∉ eks B → isort (A ++ B) = remE (isort (A ++ x :: B)) x.1) (fun _ => ?_) (fun B y ih hB => ?_) B
  · rw [isort_snoc, List.append_nil, remE_ins_self]
    exact fun h => hA (((isort_perm A).map Prod.fst).mem_iff.1 h)
  · rw [eks_app] at hB
    have h1 : x.1 ∉ eks B := fun h => hB (List.mem_append_left _ h)
    have h2 : y.1 ≠ x.1 := fun e => hB (List.mem_append_right _ (by simp [eks, e]))
    rw [← List.append_assoc, isort_snoc, ih h1, ← List.cons_append, ← List.append_assoc, isort_snoc, remE_ins (isort_asc _) h2]
/-- The first of the least is the head. -/
theorem isort_least {A : List En} {y : En} (hA : ∀ a ∈ A, cnt y < cnt a) (B : List En) : (∀ b ∈ B, cnt y ≤ cnt b) → isort (A ++ y :: B) = y :: isort (A ++ B) := by
  refine snoc_ind (P := fun B => (∀ b ∈ B, cnt y ≤ cnt b) → isort (A ++ y :: B) = y :: isort (A ++ B)) (fun _ => ?_) (fun B b ih hB => ?_) B
  · rw [isort_snoc, List.append_nil]
    exact insE_front fun p hp => hA p ((isort_perm A).mem_iff.1 hp)
  · rw [← List.cons_append, ← List.append_assoc, isort_snoc, ih (fun c hc => hB c (List.mem_append_left _ hc)), insE, if_pos (hB b (by simp)), ← List.append_assoc, isort_snoc]
def gE (E : List (Option En)) (p : Int × Nat) : Option En × Nat := ((E[p.1.toNat]?).join, p.2)
def hE (x : En) : Option En × Nat := (some x, cnt x)
theorem ins_map {E : List (Option En)} {i c : Nat} {x : En} (hx : gE E ((i : Int), c) = hE x) : ∀ {l : Ord} {S : List En}, l.map (gE E) = S.map hE → (ins l i c).map (gE E) = (insE S x).map hE
  | [], [], _ => by simp [ins, insE, hx]
  | [], _ :: _, h => by simp at h
  | _ :: _, [], h => by simp at h
  | p :: l, y :: S, h => by
    simp only [List.map_cons, List.cons.injEq] at h
    have h1 : p.2 = cnt y := congrArg Prod.snd h.1
    have h2 : c = cnt x := congrArg Prod.snd hx
    rw [ins, insE, h1, h2]
    split
    · rw [List.map_cons, List.map_cons, h.1, ← h2, ins_map hx h.2]
    · rw [List.map_cons, List.map_cons, ← h2, hx, List.map_cons, List.map_cons, h.1, h.2]
theorem gE_set {E : List (Option En)} {i : Nat} {o : Option En} {l : Ord} (h : ∀ p ∈ l, p.1.toNat ≠ i) : l.map (gE (E.set i o)) = l.map (gE E) :=
  List.map_congr_left fun p hp => by
    unfold gE
    rw [List.getElem?_set_ne (fun e => h p hp e.symm)]
theorem gE_some {E : List (Option En)} {p : Int × Nat} {x : En} (h : gE E p = hE x) : E[p.1.toNat]? = some (some x) ∧ p.2 = cnt x := by
  have h1 : (E[p.1.toNat]?).join = some x := congrArg Prod.fst h
  refine ⟨?_, congrArg Prod.snd h⟩
  cases h2 : E[p.1.toNat]? with
  | none => rw [h2] at h1; cases h1
  | some o => rw [h2] at h1; exact congrArg _ h1
theorem gE_mk {E : List (Option En)} {i : Nat} {x : En} (h : E[i]? = some (some x)) : gE E ((i : Int), cnt x) = hE x := by
  unfold gE hE
  rw [show ((i : Int), cnt x).1.toNat = i from Int.toNat_natCast i, h]
  rfl
theorem rem_map {E : List (Option En)} {i : Nat} {x : En} (hx : E[i]? = some (some x)) (huq : ∀ (j : Nat) y, E[j]? = some (some y) → y.1 = x.1 → j = i) : ∀ {l : Ord} {S : List En}, (∀ p ∈ l, 0 ≤ p.1) → l.map (gE E) = S.map hE → (eks S).Nodup → (rem l i).map (gE E) = (remE S x.1).map hE
  | [], [], _, _, _ => rfl
  | [], _ :: _, _, h, _ => by simp at h
  | _ :: _, [], _, h, _ => by simp at h
  | p :: l, y :: S, h0, h, hn => by
    simp only [List.map_cons, List.cons.injEq] at h
    obtain ⟨h1, h2⟩ := gE_some h.1
    have hp0 := h0 p (List.mem_cons_self ..)
    have hn' : y.1 ∉ eks S ∧ (eks S).Nodup := List.nodup_cons.1 hn
    rw [rem]
    split
    · rename_i hpi
      rw [hpi, Int.toNat_natCast, hx] at h1
      injection h1 with h1
      injection h1 with h1
      subst h1
      rw [remE, List.filter_cons_of_neg (by simp)]
      rw [show (S.filter fun z => !decide (z.1 = x.1)) = S from remE_none hn'.1]
      exact h.2
    · rename_i hpi
      have hyx : y.1 ≠ x.1 := fun e => hpi (by have := huq _ y h1 e; omega)
      rw [remE, List.filter_cons_of_pos (by simp [hyx]), List.map_cons, List.map_cons, h.1]
      exact congrArg _ (rem_map hx huq (fun q hq => h0 q (List.mem_cons_of_mem _ hq)) h.2 hn'.2)
end Go.Proofs.YtmagdjlcckgkpaaGreat

/- Saving's tables against the reference, plain. -/
namespace Go.Proofs.YtmagdjlcckgkpaaGreat
open Go.RowKit

structure SFact (m : Nat) (E : List (Option En)) (l : Ord) : Prop where
  len : E.length = m
  nd : (ids l).Nodup
  rng : ∀ p ∈ l, 0 ≤ p.1
  ord : ∀ (i : Nat) (c : Nat), ((i : Int), c) ∈ l ↔ ∃ (k : ByteArray) (o s : Nat), E[i]? = some (some (k, o, s)) ∧ c = o + s
  uq : ∀ (i j : Nat) (x y : En), E[i]? = some (some x) → E[j]? = some (some y) → y.1 = x.1 → j = i
  cnt : l.length = (E.filterMap id).length
  ne : ∀ (i : Nat) (x : En), E[i]? = some (some x) → x.1 ≠ ByteArray.empty
theorem SvR.fact {t m base total : Nat} {E : List (Option En)} {l : Ord} {r : Res} (h : SvR t m E l base total r) : SFact m E l := by
  obtain ⟨L, rfl, hm1, hm2, bR, bX, eV, rR, rX, M, T, rfl, hR, hX, hI⟩ := h
  have hO := hR.inv
  refine ⟨hI.len, hO.nd, fun p hp => (hO.rng p.1 (List.mem_map_of_mem hp)).1, fun i c => hI.ord i c, fun i j x y hi hj e => ?_, hI.cnt hO hX.nd, fun i x hi => (hI.sm i x.1 x.2.1 x.2.2 hi).2⟩
  obtain ⟨k, o, s⟩ := x
  obtain ⟨k', o', s'⟩ := y
  have e : k' = k := e
  subst e
  exact hI.uniq hX.nd hj hi
/-- The entries by the order are the reference's list, sorted by counts. -/
def SRel (E : List (Option En)) (l : Ord) (L : List En) : Prop := l.map (gE E) = (isort L).map hE ∧ (eks L).Nodup
section
variable {m : Nat} {E E' : List (Option En)} {l l' : Ord} {L L' : List En} {k : ByteArray} {i o s : Nat}
theorem hE_inj {x y : En} (h : hE x = hE y) : x = y := by
  have := congrArg Prod.fst h
  simpa [hE] using this
theorem SRel.mem (h : SRel E l L) (hf : SFact m E l) {x : En} : x ∈ L ↔ ∃ i : Nat, E[i]? = some (some x) := by
  constructor
  · intro hx
    have h1 : hE x ∈ l.map (gE E) := by rw [h.1]; exact List.mem_map_of_mem ((isort_perm L).mem_iff.2 hx)
    obtain ⟨p, _, hp⟩ := List.mem_map.1 h1
    exact ⟨_, (gE_some hp).1⟩
  · rintro ⟨i, hi⟩
    have h1 : ((i : Int), Go.Proofs.YtmagdjlcckgkpaaGreat.cnt x) ∈ l := (hf.ord i _).2 ⟨x.1, x.2.1, x.2.2, hi, rfl⟩
    have h2 : hE x ∈ (isort L).map hE := by rw [← h.1, ← gE_mk hi]; exact List.mem_map_of_mem h1
    obtain ⟨z, hz, he⟩ := List.mem_map.1 h2
    rw [hE_inj he] at hz
    exact (isort_perm L).mem_iff.1 hz
theorem SRel.len (h : SRel E l L) : L.length = l.length := by
  have := congrArg List.length h.1
  rw [List.length_map, List.length_map, (isort_perm L).length_eq] at this
  exact this.symm
theorem SRel.hasnt (h : SRel E l L) (hf : SFact m E l) : k ∉ eks L ↔ Hasnt E k := by
  constructor
  · intro hk i o s hi
    exact hk (eks_mem ((h.mem hf).2 ⟨i, hi⟩))
  · intro hk hm
    obtain ⟨x, hx, rfl⟩ := List.mem_map.1 hm
    obtain ⟨i, hi⟩ := (h.mem hf).1 hx
    exact hk i x.2.1 x.2.2 hi
theorem SRel.at {A B : List En} (h : SRel E l L) (hf : SFact m E l) (hi : Has E k i o s) {o' s' : Nat} (he : L = A ++ (k, o', s') :: B) : o' = o ∧ s' = s := by
  obtain ⟨j, hj⟩ := (h.mem hf (x := (k, o', s'))).1 (by rw [he]; simp)
  have := hf.uq i j _ _ hi hj rfl
  subst this
  have hi' : E[j]? = some (some (k, o, s)) := hi
  rw [hi'] at hj
  simp at hj
  exact ⟨hj.1.symm, hj.2.symm⟩
theorem rem_ne {l : Ord} (hn : (ids l).Nodup) {i : Int} {p : Int × Nat} (hp : p ∈ rem l i) : p ∈ l ∧ p.1 ≠ i := (mem_rem_iff hn).1 hp
theorem nd_split {A B : List En} {x : En} (h : (eks (A ++ x :: B)).Nodup) : x.1 ∉ eks A ∧ x.1 ∉ eks B ∧ (eks (A ++ B)).Nodup := by
  rw [eks_app] at h
  obtain ⟨h1, h2, h3⟩ := List.nodup_append.1 h
  have h4 : x.1 ∉ eks B ∧ (eks B).Nodup := List.nodup_cons.1 h2
  refine ⟨fun hx => h3 _ hx _ (by simp [eks]) rfl, h4.1, ?_⟩
  rw [eks_app]
  exact List.nodup_append.2 ⟨h1, h4.2, fun a ha b hb => h3 a ha b (by simp only [eks, List.map_cons, List.mem_cons] at hb ⊢; exact .inr hb)⟩
theorem SRel.del {A B : List En} (h : SRel E l L) (hf : SFact m E l) (hi : Has E k i o s) (he : L = A ++ (k, o, s) :: B) : SRel (E.set i none) (rem l i) (A ++ B) := by
  have hi' : E[i]? = some (some (k, o, s)) := hi
  have hnd := h.2
  rw [he] at hnd
  obtain ⟨h1, h2, h3⟩ := nd_split hnd
  refine ⟨?_, h3⟩
  rw [gE_set (fun p hp e => by
    obtain ⟨hp1, hp2⟩ := rem_ne hf.nd hp
    have := hf.rng p hp1
    exact hp2 (by omega)), isort_rem h1 B h2, ← he]
  refine rem_map hi' (fun j y hj e => hf.uq i j _ y hi' hj e) hf.rng h.1 ?_
  exact ((isort_perm L).map Prod.fst).nodup_iff.2 h.2
theorem SRel.put {n : Nat} {x : En} (h : SRel E l L) (hn : n < E.length) (hl : ∀ p ∈ l, p.1.toNat ≠ n) (hx : x.1 ∉ eks L) : SRel (E.set n (some x)) (ins l n (cnt x)) (L ++ [x]) := by
  refine ⟨?_, ?_⟩
  · rw [isort_snoc]
    refine ins_map (gE_mk (List.getElem?_set_self hn)) ?_
    rw [gE_set hl]
    exact h.1
  · rw [eks_app]
    exact List.nodup_append.2 ⟨h.2, by simp [eks], fun a ha b hb e => hx (by simp [eks] at hb; rw [← hb, ← e]; exact ha)⟩
theorem SRel.least {n c : Nat} {l1 : Ord} {A B : List En} {y : En} (h : SRel E (((n : Int), c) :: l1) L) (he : L = A ++ y :: B) (hA : ∀ a ∈ A, cnt y < cnt a) (hB : ∀ b ∈ B, cnt y ≤ cnt b) :
    E[n]? = some (some y) ∧ c = cnt y ∧ l1.map (gE E) = (isort (A ++ B)).map hE := by
  have h1 := h.1
  rw [he, isort_least hA B hB, List.map_cons, List.map_cons, List.cons.injEq] at h1
  obtain ⟨h2, h3⟩ := gE_some h1.1
  rw [show (((n : Int), c) : Int × Nat).1.toNat = n from Int.toNat_natCast n] at h2
  exact ⟨h2, h3, h1.2⟩
/-- The reference's adding in the mode Saving. -/
def RsAddG (n : Nat) (l : List En) (base sum : Nat) (k : ByteArray) (v : Nat) (e : Int) (l' : List En) (base' sum' : Nat) : Prop :=
  (e ≠ 0 ∧ l' = l ∧ base' = base ∧ sum' = sum ∧ (k = ByteArray.empty ∧ e = 3 ∨ k ≠ ByteArray.empty ∧ v = 0 ∧ e = 1 ∨ k ≠ ByteArray.empty ∧ v ≠ 0 ∧ 9223372036854775808 < sum + v ∧ e = 12)) ∨
  (e = 0 ∧ k ≠ ByteArray.empty ∧ v ≠ 0 ∧ sum + v ≤ 9223372036854775808 ∧ sum' = sum + v ∧ ((∃ A o s B, l = A ++ (k, o, s) :: B ∧ k ∉ eks A ∧ l' = A ++ B ++ [(k, o + v, s)] ∧ base' = base) ∨
    (k ∉ eks l ∧ l.length ≠ n ∧ l' = l ++ [(k, v, base)] ∧ base' = base) ∨
    (k ∉ eks l ∧ l.length = n ∧ ∃ A y B, l = A ++ y :: B ∧ (∀ a ∈ A, cnt y < cnt a) ∧ (∀ b ∈ B, cnt y ≤ cnt b) ∧ base' = cnt y ∧ l' = A ++ B ++ [(k, v, cnt y)])))
theorem slot_free {n : Nat} (hf : SFact m E l) (hn : E[n]? = some none) : ∀ p ∈ l, p.1.toNat ≠ n := fun p hp e => by
  have h1 := hf.rng p hp
  have h2 : ((n : Int), p.2) ∈ l := by rw [← e, Int.toNat_of_nonneg h1]; exact hp
  obtain ⟨k, o, s, h3, _⟩ := (hf.ord n p.2).1 h2
  rw [hn] at h3
  cases h3
theorem SRel.add {base base' rbase' total total' sum' v : Nat} {e e' : Int} (h : SRel E l L) (hf : SFact m E l) (hA : AddG m E base total k v e E' base' total') (hO : AddL m E l base k v e E' l' base') (hR : RsAddG m L base total k v e' L' rbase' sum') :
    e' = e ∧ rbase' = base' ∧ sum' = total' ∧ SRel E' l' L' := by
  rcases hA with ⟨he, rfl, rfl, rfl, hE⟩ | ⟨rfl, hk, hv, ht, rfl, hA⟩
  · rcases hO with ⟨_, rfl⟩ | ⟨he', _⟩
    · rcases hR with ⟨_, rfl, rfl, rfl, hE'⟩ | ⟨_, hk, hv, ht, _⟩
      · refine ⟨?_, rfl, rfl, h⟩
        rcases hE with ⟨h1, rfl⟩ | ⟨h1, h2, rfl⟩ | ⟨h1, h2, h3, rfl⟩ <;> rcases hE' with ⟨h4, rfl⟩ | ⟨h4, h5, rfl⟩ | ⟨h4, h5, h6, rfl⟩ <;> first | rfl | exact absurd h1 h4 | exact absurd h4 h1 | exact absurd h2 h5 | exact absurd h5 h2
      · rcases hE with ⟨h1, _⟩ | ⟨_, h2, _⟩ | ⟨_, _, h3, _⟩
        · exact absurd h1 hk
        · exact absurd h2 hv
        · omega
    · exact absurd he' he
  · rcases hO with ⟨h0, _⟩ | ⟨_, hO⟩
    · exact absurd rfl h0
    · rcases hR with ⟨_, _, _, _, hE'⟩ | ⟨rfl, _, _, _, rfl, hR⟩
      · rcases hE' with ⟨h1, _⟩ | ⟨_, h2, _⟩ | ⟨_, _, h3, _⟩
        · exact absurd h1 hk
        · exact absurd h2 hv
        · omega
      · rcases hO with ⟨i, o, s, hi, rfl, rfl⟩ | ⟨hno, n, E1, l1, hfr, hfl, rfl, rfl⟩
        · have hyes : ¬ Hasnt E k := fun hn => hn i o s hi
          rcases hR with ⟨A, o', s', B, he, hkA, rfl, rfl⟩ | ⟨hn, _⟩ | ⟨hn, _⟩
          · obtain ⟨rfl, rfl⟩ := h.at hf hi he
            have hbase : rbase' = base' := by
              rcases hA with ⟨_, _, _, _, _, hb⟩ | ⟨hn, _⟩
              · exact hb.symm
              · exact absurd hn hyes
            refine ⟨rfl, hbase, rfl, ?_⟩
            have h1 := h.del hf hi he
            have hil : i < E.length := (List.getElem?_eq_some_iff.1 hi).1
            have h2 := h1.put (n := i) (x := (k, o' + v, s')) (by rw [List.length_set]; exact hil) (fun p hp e => by
              obtain ⟨hp1, hp2⟩ := rem_ne hf.nd hp
              have := hf.rng p hp1
              exact hp2 (by omega)) (by
                have hnd := h.2
                rw [he] at hnd
                obtain ⟨h3, h4, _⟩ := nd_split hnd
                rw [eks_app]
                exact fun hm => (List.mem_append.1 hm).elim h3 h4)
            rw [List.set_set] at h2
            exact h2
          · exact absurd ((h.hasnt hf).1 hn) hyes
          · exact absurd ((h.hasnt hf).1 hn) hyes
        · have hkL := (h.hasnt hf).2 hno
          have hbase : ∃ n' E2, FreeG m E base n' E2 base' ∧ E1.set n (some (k, v, base')) = E2.set n' (some (k, v, base')) := by
            rcases hA with ⟨i, o, s, hi, _⟩ | ⟨_, n', E2, h1, h2⟩
            · exact absurd hi (hno i o s)
            · exact ⟨n', E2, h1, h2⟩
          have hcnt := fr_cnt E
          have hlen := h.len
          have hfl' := hf.len
          have hfc := hf.cnt
          have hnm := hfr.1
          rcases hR with ⟨A, o', s', B, he, hkA, rfl, rfl⟩ | ⟨_, hlm, rfl, rfl⟩ | ⟨_, hlm, A, y, B, he, hyA, hyB, rfl, rfl⟩
          · exact absurd (by rw [he, eks_app]; simp [eks]) hkL
          · rcases hfr with ⟨_, hE1n, ⟨rfl, rfl, _⟩ | ⟨hall, _⟩⟩
            · rcases hfl with ⟨_, rfl⟩ | ⟨hall, _⟩
              · refine ⟨rfl, rfl, rfl, ?_⟩
                exact h.put (x := (k, v, base')) (by omega) (slot_free hf hE1n) hkL
              · obtain ⟨x, hx⟩ := hall n hnm
                rw [hE1n] at hx; cases hx
            · have := fr_full (E := E) (fun i hi => hall i (by omega))
              omega
          · rcases hfr with ⟨_, hE1n, ⟨rfl, rfl, _⟩ | ⟨hall, kn, on, sn, hn, rfl, rfl, _⟩⟩
            · exfalso
              have : fr E1 ≠ 0 := by
                obtain ⟨A', B', rfl, _⟩ := split_at hE1n
                simp [fr, efr]
              omega
            · rcases hfl with ⟨hn', _⟩ | ⟨_, c, rfl⟩
              · rw [hn] at hn'; cases hn'
              · obtain ⟨h1, h2, h3⟩ := h.least he hyA hyB
                rw [hn] at h1
                injection h1 with h1
                injection h1 with h1
                subst h1
                refine ⟨rfl, rfl, rfl, ?_⟩
                have hnd := h.2
                rw [he] at hnd
                obtain ⟨h4, h5, h6⟩ := nd_split hnd
                have hnl : ∀ p ∈ l1, p.1.toNat ≠ n := fun p hp e => by
                  have h7 := hf.rng p (List.mem_cons_of_mem _ hp)
                  have h8 : (n : Int) ∉ ids l1 := (List.nodup_cons.1 hf.nd).1
                  exact h8 (by rw [← e, Int.toNat_of_nonneg h7]; exact List.mem_map_of_mem hp)
                have h9 : SRel (E.set n none) l1 (A ++ B) := ⟨by rw [gE_set hnl]; exact h3, h6⟩
                exact h9.put (x := (k, v, on + sn)) (by rw [List.length_set]; omega) hnl (by
                  rw [eks_app]
                  rw [he, eks_app] at hkL
                  exact fun hm => (List.mem_append.1 hm).elim (fun hm => hkL (List.mem_append_left _ hm)) (fun hm => hkL (List.mem_append_right _ (by simp only [eks, List.map_cons, List.mem_cons] at hm ⊢; exact .inr hm))))
theorem SRel.take {base : Nat} {v : Value} (h : SRel E l L) (hf : SFact m E l) (hT : (∃ i o s, Has E k i o s ∧ E' = E.set i none ∧ l' = rem l i ∧ v = .tuple [enV k o s, .bool true].toArray) ∨ (Hasnt E k ∧ E' = E ∧ l' = l)) (hR : RTake L k L') : SRel E' l' L' := by
  rcases hT with ⟨i, o, s, hi, rfl, rfl, _⟩ | ⟨hn, rfl, rfl⟩
  · rcases hR with ⟨hk, _⟩ | ⟨A, x, B, he, hx, _, rfl⟩
    · exact absurd hi ((h.hasnt hf).1 hk i o s)
    · obtain ⟨kx, ox, sx⟩ := x
      have hx : kx = k := hx
      subst hx
      obtain ⟨rfl, rfl⟩ := h.at hf hi he
      exact h.del hf hi he
  · rcases hR with ⟨_, rfl⟩ | ⟨A, x, B, he, hx, _, rfl⟩
    · exact h
    · exact absurd (by rw [he, eks_app, ← hx]; simp [eks]) ((h.hasnt hf).2 hn)
theorem SRel.get {base : Nat} {v : Value} {k' : ByteArray} {o' s' : Nat} {is : Bool} (h : SRel E l L) (hf : SFact m E l) (hG : GetG E k v) (hR : RGet 1 L base k k' o' s' is) : v = .tuple [enV k' o' s', .bool is].toArray := by
  rcases hG with ⟨i, o, s, hi, rfl⟩ | ⟨hn, rfl⟩
  · rcases hR with ⟨_, hk, _⟩ | ⟨rfl, A, s0, B, he, _, rfl, rfl⟩
    · exact absurd hi ((h.hasnt hf).1 hk i o s)
    · obtain ⟨rfl, rfl⟩ := h.at hf hi he
      rfl
  · rcases hR with ⟨rfl, _, rfl, rfl, rfl⟩ | ⟨_, A, s0, B, he, _, _, _⟩
    · rfl
    · exact absurd (by rw [he, eks_app]; simp [eks]) ((h.hasnt hf).2 hn)
end
theorem ents_eq {a b : List En} (ha : Srts (eks a)) (hb : Srts (eks b)) (hp : a.Perm b) : a = b := by
  have h1 : eks a = eks b := srts_unique ha hb (hp.map Prod.fst)
  have hbn : (eks b).Nodup := hb.imp fun h => nlt_ne h
  refine List.ext_getElem? fun i => ?_
  have h2 : (eks a)[i]? = (eks b)[i]? := by rw [h1]
  simp only [eks, List.getElem?_map] at h2
  cases ha' : a[i]? with
  | none =>
    cases hb' : b[i]? with
    | none => rfl
    | some y => rw [ha', hb'] at h2; cases h2
  | some x =>
    cases hb' : b[i]? with
    | none => rw [ha', hb'] at h2; cases h2
    | some y =>
      rw [ha', hb'] at h2
      simp only [Option.map_some, Option.some.injEq] at h2
      have hxb : x ∈ b := hp.mem_iff.1 (List.mem_of_getElem? ha')
      obtain ⟨A, B, hAB⟩ := List.append_of_mem (List.mem_of_getElem? hb')
      obtain ⟨k, x2⟩ := x
      obtain ⟨k', y2⟩ := y
      have h2 : k = k' := h2
      subst h2
      rw [loc_uniq hbn hAB hxb]
theorem SRel.ents {m : Nat} {E : List (Option En)} {l : Ord} {L es es' : List En} {base : Nat} (h : SRel E l L) (hf : SFact m E l) (hE : E.length = m) (h1 : es.Perm (E.filterMap id)) (h2 : Srts (es.map Prod.fst)) (h3 : es'.Perm (L.map (rent 1 base))) (h4 : Srts (eks es')) : es = es' := by
  have e : L.map (rent 1 base) = L := (List.map_congr_left fun x _ => rfl).trans (List.map_id L)
  rw [e] at h3
  refine ents_eq h2 h4 ?_
  have n1 : es.Nodup := List.Pairwise.of_map Prod.fst (fun a b hab e => hab (by rw [e])) (h2.imp fun h => nlt_ne h)
  have n2 : es'.Nodup := List.Pairwise.of_map Prod.fst (fun a b hab e => hab (by rw [e])) (h4.imp fun h => nlt_ne h)
  refine (List.perm_ext_iff_of_nodup n1 n2).2 fun x => ?_
  rw [h1.mem_iff, h3.mem_iff, h.mem hf]
  simp only [List.mem_filterMap, id]
  constructor
  · rintro ⟨o, ho, rfl⟩
    obtain ⟨i, hi⟩ := List.mem_iff_getElem?.1 ho
    exact ⟨i, hi⟩
  · rintro ⟨i, hi⟩
    exact ⟨some x, List.mem_of_getElem? hi, rfl⟩
end Go.Proofs.YtmagdjlcckgkpaaGreat

/- The proof kit, sixth part: what comes in with a call of a law, and the step to the given row. -/
namespace Go.Proofs.YtmagdjlcckgkpaaGreat
open Go.RowKit Go.WideShapes Go.ChangeShapes

/-! ### Sizes -/
section
variable {H : Type} {P : Program}

theorem weightsAll_mem {e : TypeId} : ∀ {ds : List (DataW H)} {d : DataW H} {x : Nat}, d ∈ ds → x ∈ d.weights P e → x ∈ DataW.weightsAll P e ds
  | [], _, _, h, _ => by cases h
  | c :: ds, d, x, h, hx => by
    rw [DataW.weightsAll, List.mem_append]
    rcases List.mem_cons.1 h with rfl | h
    · exact .inl hx
    · exact .inr (weightsAll_mem h hx)

theorem weightsEach_mem : ∀ {ts : List TypeId} {ds : List (DataW H)} {i : Nat} {t : TypeId} {d : DataW H} {x : Nat}, ts[i]? = some t → ds[i]? = some d → x ∈ d.weights P t → x ∈ DataW.weightsEach P ts ds
  | [], _, _, _, _, _, h, _, _ => by simp at h
  | _ :: _, [], _, _, _, _, _, h, _ => by simp at h
  | s :: ts, c :: ds, 0, t, d, x, h1, h2, hx => by
    simp at h1 h2
    subst h1; subst h2
    rw [DataW.weightsEach, List.mem_append]
    exact .inl hx
  | s :: ts, c :: ds, i + 1, t, d, x, h1, h2, hx => by
    rw [DataW.weightsEach, List.mem_append]
    exact .inr (weightsEach_mem (by simpa using h1) (by simpa using h2) hx)
end

/-! ### What a value reads as -/
section
variable {H : Type} (enc : TypeId × Value → H) (P : Program) (w : World)

/-- The cells read as a value of the type, no part of which is too large. -/
def Arg (t : TypeId) (cs : List Value) : Prop :=
  ∃ (fuel : Nat) (d : DataW H) (ps : List MemPlace), DataW.trod enc P w 0 (fun _ => true) true fuel t cs = some (d, ps) ∧ ∀ x ∈ d.weights P t, x ≤ reachBytes

variable {enc} {P} {w}

theorem arg_int {t : TypeId} {k : IntKind} {cs : List Value} (ht : P.underlying t = some (.int k)) (h : Arg enc P w t cs) : ∃ n, cs = [.int k n] ∧ (Lit.int k n).wf = true := by
  obtain ⟨fuel, d, ps, h, _⟩ := h
  obtain ⟨n, h1, _, h3⟩ := DataW.trod_int ht h
  exact ⟨n, h1, h3⟩
theorem arg_bool {t : TypeId} {cs : List Value} (ht : P.underlying t = some .bool) (h : Arg enc P w t cs) : ∃ b, cs = [.bool b] := by
  obtain ⟨fuel, d, ps, h, _⟩ := h
  obtain ⟨n, h1, _⟩ := DataW.trod_bool ht h
  exact ⟨n, h1⟩
theorem arg_string {t : TypeId} {cs : List Value} (ht : P.underlying t = some .string) (h : Arg enc P w t cs) : ∃ s : ByteArray, cs = [.string s] ∧ s.size ≤ 140737488351232 := by
  obtain ⟨fuel, d, ps, h, hw⟩ := h
  obtain ⟨s, h1, h2, _⟩ := DataW.trod_string ht h
  simp only [Prod.mk.injEq] at h2
  refine ⟨s, h1, ?_⟩
  have := hw s.data.toList.length (by rw [h2.1]; simp [DataW.weights])
  simp only [reachBytes, Array.length_toList] at this
  exact this
theorem arg_struct {t : TypeId} {fs : Array Field} {cs : List Value} (ht : P.underlying t = some (.struct fs)) (h : Arg enc P w t cs) :
    cs.length = P.cellsOf t ∧ ∀ (i : Nat) (f : Field), fs[i]? = some f → Arg enc P w f.type ((cs.drop f.offset).take (P.cellsOf f.type)) := by
  obtain ⟨fuel, d, ps, h, hw⟩ := h
  obtain ⟨xs, n, _, hx, hl, hlen, hg⟩ := DataW.trod_struct ht h
  simp only [Prod.mk.injEq] at hx
  refine ⟨hl, fun i f hf => ?_⟩
  have hi : i < xs.length := by have := (Array.getElem?_eq_some_iff.1 hf).1; omega
  refine ⟨n, xs[i].1, xs[i].2, by rw [hg i f hf, List.getElem?_eq_getElem hi], fun x hx' => hw x ?_⟩
  rw [hx.1]
  simp only [DataW.weights, ht]
  exact weightsEach_mem (i := i) (t := f.type) (d := xs[i].1) (by simp [hf]) (by simp [hi]) hx'

/-- A slice: n elements of sz cells. -/
theorem arg_slice {t e : TypeId} {sz bytes : Nat} {cs : List Value} (ht : P.underlying t = some (.slice e)) (hsz : P.cellsOf e = sz) (hpos : 0 < sz) (hby : P.bytesOf e = bytes) (h : Arg enc P w t cs) :
    ∃ A n c xs, cs = [.slice A n c] ∧ Rd w Nil sz (.slice A n c) n xs ∧ n * bytes ≤ 140737488351232 ∧ n ≤ maxLen ∧ ∀ i, i < n → Arg enc P w e ((xs.drop (i * sz)).take sz) := by
  obtain ⟨fuel, d, ps, h, hw⟩ := h
  rcases Go.Deep.open_slice ht h with ⟨rfl, _⟩ | ⟨a, len, cap, m, n, D, Pl, rfl, _, hl, hm, hmm, hx, hi⟩
  · exact ⟨.none, 0, 0, [], rfl, Rd.nil _ _ _, by omega, by simp [maxLen], by simp⟩
  · simp only [if_true] at hmm
    subst hmm
    rw [hsz] at hi
    simp only [Prod.mk.injEq] at hx
    have hlw : ∀ x ∈ (DataW.slice ((List.range len).map D) ((List.range (m - len)).map fun j => D (len + j))).weights P t, x ≤ reachBytes := by rw [← hx.1]; exact hw
    simp only [DataW.weights, ht] at hlw
    have hb := hlw _ (List.mem_cons_self ..)
    simp only [List.length_map, List.length_range, reachBytes, hby] at hb
    have hcell : ∀ j, j < len * sz → ∃ u, w.cell? (a.add j) = some u := fun j hj => by
      obtain ⟨cs', h1, _⟩ := hi (j / sz) (Nat.lt_of_lt_of_le ((Nat.div_lt_iff_lt_mul hpos).2 hj) hl)
      obtain ⟨_, h2, h3⟩ := World.cells?_some h1
      have h4 := h3 (j % sz) (Nat.mod_lt _ hpos)
      rw [Go.Deep.add_add, Nat.mul_comm, Nat.div_add_mod] at h4
      rw [h4, List.getElem?_eq_getElem (by rw [h2]; exact Nat.mod_lt _ hpos)]
      exact ⟨_, rfl⟩
    refine ⟨some a, len, m, (List.range (len * sz)).map fun j => (w.cell? (a.add j)).getD undef, rfl, ⟨some a, m, rfl, by simp, hl, ?_⟩, ?_, by omega, fun i hil => ?_⟩
    · rcases Nat.eq_zero_or_pos len with h0 | h0
      · exact .inl h0
      · right
        obtain ⟨u0, hu0⟩ := hcell 0 (Nat.mul_pos h0 hpos)
        have hspot : a.spot = .none := by
          rw [show a.add 0 = a by unfold Addr.add; simp] at hu0
          unfold World.cell? at hu0
          split at hu0
          · split at hu0
            · cases hu0
            · rename_i hs; simpa using hs
          · cases hu0
        obtain ⟨ab, ao, ap⟩ := a
        simp only at hspot
        subst hspot
        refine ⟨ab, ao, rfl, id, ?_, fun j u hu => ?_⟩
        · rw [show (⟨ab, ao, .none⟩ : Addr).add 0 = ⟨ab, ao, .none⟩ by unfold Addr.add; simp] at hu0
          exact World.block_lt_of_cell? w _ hu0
        · have hj : j < len * sz := by
            have := (List.getElem?_eq_some_iff.1 hu).1
            simpa using this
          obtain ⟨u', hu'⟩ := hcell j hj
          simp [hj, hu'] at hu
          subst hu
          rwa [add_eq] at hu'
    · have : len * bytes ≤ (len + (m - len)) * bytes := Nat.mul_le_mul_right _ (by omega)
      omega
    · obtain ⟨cs', h1, h2⟩ := hi i (by omega)
      obtain ⟨_, hcl, hat⟩ := World.cells?_some h1
      have he : (((List.range (len * sz)).map fun j => (w.cell? (a.add j)).getD undef).drop (i * sz)).take sz = cs' := by
        apply List.ext_getElem?
        intro j
        rw [List.getElem?_take]
        by_cases hj : j < sz
        · rw [if_pos hj, List.getElem?_drop]
          have hlt : i * sz + j < len * sz := by
            have : (i + 1) * sz ≤ len * sz := Nat.mul_le_mul_right _ hil
            rw [Nat.add_mul] at this
            omega
          have h3 := hat j hj
          rw [Go.Deep.add_add] at h3
          rw [List.getElem?_eq_getElem (show j < cs'.length by omega)] at h3 ⊢
          simp [hlt, h3]
        · rw [if_neg hj, List.getElem?_eq_none (by omega)]
      rw [he]
      refine ⟨n, D i, Pl i, h2, fun x hx' => hlw x ?_⟩
      refine List.mem_cons_of_mem _ (List.mem_append_left _ (weightsAll_mem ?_ hx'))
      simp only [List.mem_map, List.mem_range]
      exact ⟨i, hil, rfl⟩

/-- .. of elements of one cell each. -/
theorem arg_slice1 {t e : TypeId} {bytes : Nat} {cs : List Value} (ht : P.underlying t = some (.slice e)) (hsz : P.cellsOf e = 1) (hby : P.bytesOf e = bytes) (h : Arg enc P w t cs) :
    ∃ A n c xs, cs = [.slice A n c] ∧ Rd w Nil 1 (.slice A n c) n xs ∧ xs.length = n ∧ n * bytes ≤ 140737488351232 ∧ n ≤ maxLen ∧ ∀ u ∈ xs, Arg enc P w e [u] := by
  obtain ⟨A, n, c, xs, h1, h2, h3, h4, h5⟩ := arg_slice ht hsz (by omega) hby h
  have hl : xs.length = n := by obtain ⟨_, _, _, h, _⟩ := h2; omega
  refine ⟨A, n, c, xs, h1, h2, hl, h3, h4, fun u hu => ?_⟩
  obtain ⟨i, hi, rfl⟩ := List.getElem_of_mem hu
  have := h5 i (by omega)
  rw [Nat.mul_one] at this
  rwa [List.drop_eq_getElem_cons hi] at this

/-- A slice of integers. -/
theorem arg_ints {t e : TypeId} {bytes : Nat} {k : IntKind} {cs : List Value} (ht : P.underlying t = some (.slice e)) (he : P.underlying e = some (.int k)) (hsz : P.cellsOf e = 1) (hby : P.bytesOf e = bytes) (h : Arg enc P w t cs) :
    ∃ A c zs, cs = [.slice A (zs : List Int).length c] ∧ Rd w Nil 1 (.slice A zs.length c) zs.length (zs.map (Value.int k)) ∧ zs.length * bytes ≤ 140737488351232 ∧ zs.length ≤ maxLen ∧ ∀ z ∈ zs, (Lit.int k z).wf = true := by
  obtain ⟨A, n, c, xs, h1, h2, h3, h4, h5, h6⟩ := arg_slice1 ht hsz hby h
  have : ∀ xs : List Value, (∀ u ∈ xs, Arg enc P w e [u]) → ∃ zs : List Int, xs = zs.map (Value.int k) ∧ ∀ z ∈ zs, (Lit.int k z).wf = true := by
    intro xs
    induction xs with
    | nil => exact fun _ => ⟨[], rfl, by simp⟩
    | cons u xs ih =>
      intro hu
      obtain ⟨z, hz, hwf⟩ := arg_int he (hu u (List.mem_cons_self ..))
      obtain ⟨zs, rfl, hzs⟩ := ih fun v hv => hu v (List.mem_cons_of_mem _ hv)
      simp at hz
      subst hz
      exact ⟨z :: zs, rfl, fun y hy => (List.mem_cons.1 hy).elim (fun e => e ▸ hwf) (hzs y)⟩
  obtain ⟨zs, rfl, hzs⟩ := this xs h6
  simp only [List.length_map] at h3
  subst h3
  exact ⟨A, c, zs, h1, h2, h4, h5, hzs⟩

/-- A slice of strings. -/
theorem arg_strings {t e : TypeId} {cs : List Value} (ht : P.underlying t = some (.slice e)) (he : P.underlying e = some .string) (hsz : P.cellsOf e = 1) (hby : P.bytesOf e = 16) (h : Arg enc P w t cs) :
    ∃ A c l, cs = [.slice A (l : List ByteArray).length c] ∧ Rd w Nil 1 (.slice A l.length c) l.length (l.map Value.string) ∧ l.length * 16 ≤ 140737488351232 ∧ ∀ s ∈ l, s.size ≤ 140737488351232 := by
  obtain ⟨A, n, c, xs, h1, h2, h3, h4, _, h6⟩ := arg_slice1 ht hsz hby h
  have : ∀ xs : List Value, (∀ u ∈ xs, Arg enc P w e [u]) → ∃ l : List ByteArray, xs = l.map Value.string ∧ ∀ s ∈ l, s.size ≤ 140737488351232 := by
    intro xs
    induction xs with
    | nil => exact fun _ => ⟨[], rfl, by simp⟩
    | cons u xs ih =>
      intro hu
      obtain ⟨z, hz, hwf⟩ := arg_string he (hu u (List.mem_cons_self ..))
      obtain ⟨zs, rfl, hzs⟩ := ih fun v hv => hu v (List.mem_cons_of_mem _ hv)
      simp at hz
      subst hz
      exact ⟨z :: zs, rfl, fun y hy => (List.mem_cons.1 hy).elim (fun e => e ▸ hwf) (hzs y)⟩
  obtain ⟨l, rfl, hl⟩ := this xs h6
  simp only [List.length_map] at h3
  subst h3
  exact ⟨A, c, l, h1, h2, h4, hl⟩

/-- A slice of structs of two strings each. -/
theorem arg_pairs {t e : TypeId} {f0 f1 : Field} {cs : List Value} (ht : P.underlying t = some (.slice e)) (he : P.underlying e = some (.struct #[f0, f1])) (hsz : P.cellsOf e = 2) (hby : P.bytesOf e = 32)
    (k0 : P.underlying f0.type = some .string) (k1 : P.underlying f1.type = some .string) (o0 : f0.offset = 0) (o1 : f1.offset = 1) (c0 : P.cellsOf f0.type = 1) (c1 : P.cellsOf f1.type = 1) (h : Arg enc P w t cs) :
    ∃ A c l, cs = [.slice A (l : List (ByteArray × ByteArray)).length c] ∧ Rd w Nil 2 (.slice A l.length c) l.length (l.flatMap fun t => [.string t.1, .string t.2]) ∧ l.length * 32 ≤ 140737488351232 ∧
      ∀ s ∈ l, s.1.size ≤ 140737488351232 ∧ s.2.size ≤ 140737488351232 := by
  obtain ⟨A, n, c, xs, h1, h2, h4, _, h6⟩ := arg_slice ht hsz (by omega) hby h
  have hxl : xs.length = n * 2 := by obtain ⟨_, _, _, h, _⟩ := h2; exact h
  have : ∀ (n : Nat) (xs : List Value), xs.length = n * 2 → (∀ i, i < n → Arg enc P w e ((xs.drop (i * 2)).take 2)) → ∃ l : List (ByteArray × ByteArray), l.length = n ∧ xs = (l.flatMap fun t => [.string t.1, .string t.2]) ∧
      ∀ s ∈ l, s.1.size ≤ 140737488351232 ∧ s.2.size ≤ 140737488351232 := by
    intro n
    induction n with
    | zero => exact fun xs hx _ => ⟨[], rfl, by simpa using hx, by simp⟩
    | succ n ih =>
      intro xs hx hu
      match xs, hx with
      | [_], hx => simp at hx; omega
      | a :: b :: xs, hx =>
        obtain ⟨l, hl, hxs, hs⟩ := ih xs (by simp at hx; omega) fun i hi => by
          have := hu (i + 1) (by omega)
          rwa [show (i + 1) * 2 = i * 2 + 1 + 1 by omega, List.drop_succ_cons, List.drop_succ_cons] at this
        have h0 := hu 0 (by omega)
        simp only [Nat.zero_mul, List.drop_zero, List.take_succ_cons, List.take_zero] at h0
        obtain ⟨_, hf⟩ := arg_struct he h0
        obtain ⟨s, e1, e2⟩ := arg_string k0 (by simpa [o0, c0] using hf 0 f0 rfl)
        obtain ⟨r, e3, e4⟩ := arg_string k1 (by simpa [o1, c1] using hf 1 f1 rfl)
        simp at e1 e3
        subst e1; subst e3
        exact ⟨(s, r) :: l, by simp [hl], by simp [hxs], fun y hy => (List.mem_cons.1 hy).elim (fun e => e ▸ ⟨e2, e4⟩) (hs y)⟩
  obtain ⟨l, hl, rfl, hs⟩ := this n xs hxl h6
  subst hl
  exact ⟨A, c, l, h1, h2, h4, hs⟩
end

/-! ### The parameters -/
section
variable {H : Type} (enc : TypeId × Value → H) (P : Program) (w : World)

def Par (t : TypeId) (v : Value) : Prop := (∃ b, Value.okWide P w .any b t v) ∧ Arg enc P w t v.cells.toList
def Pars : List TypeId → List Value → Prop
  | [], [] => True
  | t :: ts, v :: vs => Par enc P w t v ∧ Pars ts vs
  | _, _ => False

variable {enc} {P} {w}
theorem pars_cons {t : TypeId} {ts : List TypeId} {vs : List Value} (h : Pars enc P w (t :: ts) vs) : ∃ v vs', vs = v :: vs' ∧ Par enc P w t v ∧ Pars enc P w ts vs' := by
  cases vs with
  | nil => cases h
  | cons v vs => exact ⟨v, vs, rfl, h⟩
theorem pars_nil {vs : List Value} (h : Pars enc P w [] vs) : vs = [] := by
  cases vs with
  | nil => rfl
  | cons v vs => cases h

theorem par_cell {t : TypeId} {v u : Value} (h : Par enc P w t v) (hs : ∀ fs, P.underlying t ≠ some (.struct fs)) (ha : ∀ n e, P.underlying t ≠ some (.array n e)) (hu : v.cells.toList = [u]) : v = u := by
  obtain ⟨⟨b, hv⟩, _⟩ := h
  unfold Value.okWide at hv
  split at hv
  · exact absurd ‹_› (hs _)
  · exact absurd ‹_› (ha _ _)
  · cases v with
    | agg cs =>
      exfalso
      unfold Cell.okWide at hv
      split at hv <;> simp_all [Cell.ok]
    | _ => simpa [Value.cells] using hu
theorem par_int {t : TypeId} {k : IntKind} {v : Value} (ht : P.underlying t = some (.int k)) (h : Par enc P w t v) : ∃ n, v = .int k n ∧ (Lit.int k n).wf = true := by
  obtain ⟨n, h1, h2⟩ := arg_int ht h.2
  exact ⟨n, par_cell h (by simp [ht]) (by simp [ht]) h1, h2⟩
theorem par_bool {t : TypeId} {v : Value} (ht : P.underlying t = some .bool) (h : Par enc P w t v) : ∃ b, v = .bool b := by
  obtain ⟨n, h1⟩ := arg_bool ht h.2
  exact ⟨n, par_cell h (by simp [ht]) (by simp [ht]) h1⟩
theorem par_string {t : TypeId} {v : Value} (ht : P.underlying t = some .string) (h : Par enc P w t v) : ∃ s : ByteArray, v = .string s ∧ s.size ≤ 140737488351232 := by
  obtain ⟨n, h1, h2⟩ := arg_string ht h.2
  exact ⟨n, par_cell h (by simp [ht]) (by simp [ht]) h1, h2⟩
theorem par_slice {t e : TypeId} {v u : Value} (ht : P.underlying t = some (.slice e)) (h : Par enc P w t v) (hu : v.cells.toList = [u]) : v = u := par_cell h (by simp [ht]) (by simp [ht]) hu
theorem par_struct {t : TypeId} {fs : Array Field} {v : Value} (ht : P.underlying t = some (.struct fs)) (h : Par enc P w t v) : ∃ cs : Array Value, v = .agg cs ∧ cs.size = P.cellsOf t ∧
    ∀ (i : Nat) (f : Field), fs[i]? = some f → Arg enc P w f.type ((cs.toList.drop f.offset).take (P.cellsOf f.type)) := by
  obtain ⟨⟨b, hv⟩, ha⟩ := h
  obtain ⟨cs, rfl, hs⟩ := okWide_struct ht hv
  exact ⟨cs, rfl, hs, (arg_struct ht ha).2⟩
theorem par_ints {t e : TypeId} {bytes : Nat} {k : IntKind} {v : Value} (ht : P.underlying t = some (.slice e)) (he : P.underlying e = some (.int k)) (hsz : P.cellsOf e = 1) (hby : P.bytesOf e = bytes) (h : Par enc P w t v) :
    ∃ A c zs, v = .slice A (zs : List Int).length c ∧ Rd w Nil 1 (.slice A zs.length c) zs.length (zs.map (Value.int k)) ∧ zs.length * bytes ≤ 140737488351232 ∧ zs.length ≤ maxLen ∧ ∀ z ∈ zs, (Lit.int k z).wf = true := by
  obtain ⟨A, c, zs, h1, h2⟩ := arg_ints ht he hsz hby h.2
  exact ⟨A, c, zs, par_slice ht h h1, h2⟩
theorem par_strings {t e : TypeId} {v : Value} (ht : P.underlying t = some (.slice e)) (he : P.underlying e = some .string) (hsz : P.cellsOf e = 1) (hby : P.bytesOf e = 16) (h : Par enc P w t v) :
    ∃ A c l, v = .slice A (l : List ByteArray).length c ∧ Rd w Nil 1 (.slice A l.length c) l.length (l.map Value.string) ∧ l.length * 16 ≤ 140737488351232 ∧ ∀ s ∈ l, s.size ≤ 140737488351232 := by
  obtain ⟨A, c, zs, h1, h2⟩ := arg_strings ht he hsz hby h.2
  exact ⟨A, c, zs, par_slice ht h h1, h2⟩
theorem par_pairs {t e : TypeId} {f0 f1 : Field} {v : Value} (ht : P.underlying t = some (.slice e)) (he : P.underlying e = some (.struct #[f0, f1])) (hsz : P.cellsOf e = 2) (hby : P.bytesOf e = 32)
    (k0 : P.underlying f0.type = some .string) (k1 : P.underlying f1.type = some .string) (o0 : f0.offset = 0) (o1 : f1.offset = 1) (c0 : P.cellsOf f0.type = 1) (c1 : P.cellsOf f1.type = 1) (h : Par enc P w t v) :
    ∃ A c l, v = .slice A (l : List (ByteArray × ByteArray)).length c ∧ Rd w Nil 2 (.slice A l.length c) l.length (l.flatMap fun t => [.string t.1, .string t.2]) ∧ l.length * 32 ≤ 140737488351232 ∧
      ∀ s ∈ l, s.1.size ≤ 140737488351232 ∧ s.2.size ≤ 140737488351232 := by
  obtain ⟨A, c, zs, h1, h2⟩ := arg_pairs ht he hsz hby k0 k1 o0 o1 c0 c1 h.2
  exact ⟨A, c, zs, par_slice ht h h1, h2⟩

/-- Bytes, as numbers. -/
theorem u8_nats : ∀ zs : List Int, (∀ z ∈ zs, (Lit.int .u8 z).wf = true) → ∃ l : List Nat, zs = l.map Int.ofNat ∧ l.length = zs.length ∧ ∀ b ∈ l, b < 256
  | [], _ => ⟨[], rfl, rfl, by simp⟩
  | z :: zs, h => by
    obtain ⟨l, hl, hn, hb⟩ := u8_nats zs fun y hy => h y (List.mem_cons_of_mem _ hy)
    have hz := h z (List.mem_cons_self ..)
    simp [Lit.wf, IntKind.min, IntKind.max, IntKind.signed, IntKind.bits] at hz
    refine ⟨z.toNat :: l, ?_, by simp [hn], fun y hy => ?_⟩
    · rw [hl, List.map_cons]
      congr 1
      show z = (z.toNat : Int)
      omega
    · rcases List.mem_cons.1 hy with rfl | hy
      · omega
      · exact hb y hy
end

/-! ### The row -/
section
variable {H : Type} {enc : TypeId × Value → H}

theorem pars_of {P : Program} {w : World} : ∀ {ts : List TypeId} {vs : List Value} {ds : List (DataW H)} {ps : List MemPlace},
    (∀ (j : Nat) t v, ts[j]? = some t → vs[j]? = some v → ∃ b, Value.okWide P w .any b t v) → DataW.TrodAll enc P w 0 (fun _ => true) true ts vs ds ps → (∀ x ∈ DataW.weightsEach P ts ds, x ≤ reachBytes) → Pars enc P w ts vs
  | [], vs, ds, ps, _, h, _ => by
    obtain ⟨rfl, _, _⟩ := trodAll_nil h
    trivial
  | t :: ts, vs, ds, ps, hv, h, hx => by
    obtain ⟨v, vs', d, ds', p, q, rfl, rfl, rfl, ⟨fuel, h1⟩, h2⟩ := trodAll_cons h
    rw [DataW.weightsEach] at hx
    exact ⟨⟨hv 0 t v rfl rfl, fuel, d, p, h1, fun x h => hx x (List.mem_append_left _ h)⟩,
      pars_of (fun j t' v' e1 e2 => hv (j + 1) t' v' (by simpa using e1) (by simpa using e2)) h2 fun x h => hx x (List.mem_append_right _ h)⟩

theorem trodAll_stays {P : Program} (hl : laidOutB P = true) {W W' : World} (hb : Below W.heap.size W W') {sp : Nat → Bool} : ∀ {ts : List TypeId} {vs : List Value} {ds : List (DataW H)} {ps : List MemPlace},
    (∀ t ∈ ts, P.readableRec t = true ∧ t < P.types.size) → DataW.TrodAll enc P W 0 (fun _ => true) true ts vs ds ps → (∀ x ∈ ps, x.block < W.heap.size) → (∀ x ∈ ps, sp x.block = true) → DataW.TrodAll enc P W' 0 sp true ts vs ds ps
  | [], vs, ds, ps, _, h, _, _ => by
    obtain ⟨rfl, rfl, rfl⟩ := trodAll_nil h
    rfl
  | t :: ts, vs, ds, ps, hr, h, hlt, hs => by
    obtain ⟨v, vs', d, ds', p, q, rfl, rfl, rfl, h1, h2⟩ := trodAll_cons h
    obtain ⟨r1, r2⟩ := hr t (List.mem_cons_self ..)
    exact ⟨p, q, WideElems.Trod_stays hl r1 r2 h1 (fun x hx => hb.same (hlt x (List.mem_append_left _ hx))) (fun x hx => hs x (List.mem_append_left _ hx)),
      trodAll_stays hl hb (fun t ht => hr t (List.mem_cons_of_mem _ ht)) h2 (fun x hx => hlt x (List.mem_append_right _ hx)) (fun x hx => hs x (List.mem_append_right _ hx)), rfl⟩

/-- A law that is true whatever comes in, and leaves what came in as it was. -/
theorem lifted_true {C : Checked} {os : Os} {n : FuncId} {fn : Func} {s : ChangeSpec} {fresh handsOn : Bool} {tb : TypeId}
    (own : ownKnob C.prog.godebug = none) (started : os.Started) (noInit : C.prog.inits.idxOf? n = none) (hfn : C.prog.funcs[n]? = some fn)
    (witness : ∃ (w : World) (tape : Tape) (i : Input), w.os = os ∧ (w.forCall tape i).Shaped C.prog ∧ i.vars = [] ∧ Input.okWide C.prog (w.forCall tape i) .any w.heap.size n i ∧
      s.pre6 enc C.prog fn [] false (w.forCall tape i).memory i.args ∧ ({} : Assume).holds C.prog (lone (Frame.enter C.prog n i.args .normal) [] (w.forCall tape i)))
    (hvars : s.vars = []) (hs : ∀ ds : List (DataW H), ds.length = fn.params.size → s.fn H ds = { results := [.lit (.bool true)], args := ds })
    (hl : laidOutB C.prog = true) (hr : fn.params.toList.all (fun t => C.prog.readableRec t && decide (t < C.prog.types.size)) = true) (hres : fn.resultTypes = #[tb]) (htb : C.prog.underlying tb = some .bool)
    (h : ∀ (W : World) (args : List Value), Pars enc C.prog W fn.params.toList args → Spec C.prog n args W Nil fun r _ => r = .bool true) :
    ReturnsInHanded {} C os n .any (s.pre6 enc C.prog fn [] false) (s.post enc C.prog fn false fresh handsOn false) := by
  refine returnsInHanded_of_change_sized own started noInit hfn witness ?_
  intro W base args ds gs before hval hW _ hsz _
  have hW' := hW
  obtain ⟨p, q, hA, hV, rfl, hfz, hnd⟩ := hW
  rw [hvars] at hV
  obtain ⟨rfl, rfl⟩ := trodVars_none hV
  have hvt : s.plain.varTypes C.prog = [] := by simp [DataSpec.varTypes, ChangeSpec.plain, hvars]
  rw [hvt, List.append_nil, List.append_nil] at hsz
  have hP : Pars enc C.prog W fn.params.toList args.toList :=
    pars_of (fun j t v e1 e2 => ⟨base, hval j t v (by simpa using e1) (by simpa using e2)⟩) hA fun x hx => by
      have := List.all_eq_true.1 hsz x hx
      simpa using this
  have hlt : ∀ x ∈ p, x.block < W.heap.size := fun x hx => hW'.lt x (List.mem_append_left _ hx)
  have hspec := h W args.toList hP
  unfold Spec at hspec
  rw [show args.toList.toArray = args from rfl] at hspec
  refine hspec.mono fun e W' ⟨v, H1, he, hh, hv⟩ => ⟨v, he, ?_⟩
  subst hv
  have hb : Below W.heap.size W W' := hh.1.below
  have hdl : ds.length = fn.params.size := by
    have : ∀ {ts : List TypeId} {vs : List Value} {ds : List (DataW H)} {ps : List MemPlace}, DataW.TrodAll enc C.prog W 0 (fun _ => true) true ts vs ds ps → ds.length = ts.length := by
      intro ts
      induction ts with
      | nil => intro vs ds ps h; obtain ⟨_, rfl, _⟩ := trodAll_nil h; rfl
      | cons t ts ih => intro vs ds ps h; obtain ⟨_, _, _, _, _, _, _, rfl, _, _, h2⟩ := trodAll_cons h; simp [ih h2]
    simpa using this hA
  have hrl : (Value.bool true).resultList fn.resultTypes.size = [.bool true] := by rw [hres]; rfl
  refine ⟨ds, [], p ++ [], [], p, [], hW', ?_, ?_, ?_, ?_, fun h => by cases h⟩
  · rw [List.append_nil, hs ds hdl, hrl, hres]
    exact trodAll_mk1 (shut_bool htb true)
  · rw [List.append_nil, hs ds hdl]
    exact trodAll_stays hl hb (fun t ht => by simpa only [Bool.and_eq_true, decide_eq_true_eq] using List.all_eq_true.1 hr t ht) hA hlt fun x hx => by simpa using hlt x hx
  · rw [List.append_nil, hs ds hdl, hvars]
    rfl
  · exact World.keptBut_mono (fun x hx => ⟨hx, .inr (.inl (by simpa using hx))⟩) (hb.frame (· ∈ p ++ []))
end
end Go.Proofs.YtmagdjlcckgkpaaGreat

/- What comes in, by type: numbers, lists of numbers, texts. -/
namespace Go.Proofs.YtmagdjlcckgkpaaGreat
open Go.RowKit

theorem Tryz.own : ownKnob Tryz.prog.godebug = none := by kernel_rfl
theorem Tryz.laidOut : laidOutB Tryz.prog = true := by kernel_rfl

section
variable {H : Type} {enc : TypeId × Value → H} {w : World}

theorem i64_wf {n : Int} (h : (Lit.int .i64 n).wf = true) : -9223372036854775808 ≤ n ∧ n ≤ 9223372036854775807 := by
  simpa [Lit.wf, IntKind.min, IntKind.max, IntKind.signed, IntKind.bits] using h
theorem u64_wf {n : Int} (h : (Lit.int .u64 n).wf = true) : ∃ k : Nat, n = k ∧ k < 18446744073709551616 := by
  simp [Lit.wf, IntKind.min, IntKind.max, IntKind.signed, IntKind.bits] at h
  exact ⟨n.toNat, by omega, by omega⟩
theorem u32_wf {n : Int} (h : (Lit.int .u32 n).wf = true) : ∃ k : Nat, n = k ∧ k < 4294967296 := by
  simp [Lit.wf, IntKind.min, IntKind.max, IntKind.signed, IntKind.bits] at h
  exact ⟨n.toNat, by omega, by omega⟩
theorem u16_wf {n : Int} (h : (Lit.int .u16 n).wf = true) : ∃ k : Nat, n = k ∧ k < 65536 := by
  simp [Lit.wf, IntKind.min, IntKind.max, IntKind.signed, IntKind.bits] at h
  exact ⟨n.toNat, by omega, by omega⟩
theorem u8_wf {n : Int} (h : (Lit.int .u8 n).wf = true) : ∃ k : Nat, n = k ∧ k < 256 := by
  simp [Lit.wf, IntKind.min, IntKind.max, IntKind.signed, IntKind.bits] at h
  exact ⟨n.toNat, by omega, by omega⟩
theorem par_iv {v : Value} (h : Par enc Tryz.prog w 22 v) : ∃ A c zs, v = .slice A (zs : List Int).length c ∧ Rd w Nil 1 (.slice A zs.length c) zs.length (iv zs) ∧ zs.length * 8 ≤ 140737488351232 ∧ ∀ z ∈ zs, -9223372036854775808 ≤ z ∧ z ≤ 9223372036854775807 := by
  obtain ⟨A, c, zs, h1, h2, h3, _, h4⟩ := par_ints (bytes := 8) Tryz.underlying22 Tryz.underlying3 (by kernel_rfl) (by kernel_rfl) h
  exact ⟨A, c, zs, h1, h2, h3, fun z hz => i64_wf (h4 z hz)⟩
theorem par_sv {v : Value} (h : Par enc Tryz.prog w 30 v) : ∃ A c l, v = .slice A (l : List ByteArray).length c ∧ Rd w Nil 1 (.slice A l.length c) l.length (sv l) ∧ l.length * 16 ≤ 140737488351232 ∧ ∀ s ∈ l, s.size ≤ 140737488351232 :=
  par_strings Tryz.underlying30 Tryz.underlying9 (by kernel_rfl) (by kernel_rfl) h
theorem par_uv {v : Value} (h : Par enc Tryz.prog w 95 v) : ∃ A c T, v = .slice A (T : List Nat).length c ∧ Rd w Nil 1 (.slice A T.length c) T.length (u64v T) ∧ T.length * 8 ≤ 140737488351232 := by
  obtain ⟨A, c, zs, h1, h2, h3, _, h4⟩ := par_ints (bytes := 8) Tryz.underlying95 Tryz.underlying33 (by kernel_rfl) (by kernel_rfl) h
  have e : (zs.map Int.toNat).map (fun c : Nat => Value.int .u64 (c : Int)) = zs.map (Value.int .u64) := by
    rw [List.map_map]
    refine List.map_congr_left fun z hz => ?_
    obtain ⟨k, rfl, _⟩ := u64_wf (h4 z hz)
    rfl
  have hl : (zs.map Int.toNat).length = zs.length := List.length_map ..
  refine ⟨A, c, zs.map Int.toNat, by rw [hl]; exact h1, ?_, by rw [hl]; exact h3⟩
  rw [hl, u64v, e]
  exact h2
end
end Go.Proofs.YtmagdjlcckgkpaaGreat
