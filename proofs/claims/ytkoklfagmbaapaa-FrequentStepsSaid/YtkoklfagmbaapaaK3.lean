/- The proof kit, third part: the rules of the operations that compute. -/
import Derived.Test.YtkoklfagmbaapaaK2
import Derived.IntWalk
namespace Go.Proofs.Ytkoklfagmbaapaa
open Go.RowKit

section
variable {P : Program} {n : Nat} {w0 : World} {F0 : Nat → Prop} {m : Env} {H : List Res} {w : World} {ty : TypeId}
  {x y c : Operand} {v vx vy : Value} {k : IntKind} {p q r : Int}

theorem f_move (hx : ev m x = some v) : Flt P n w0 F0 (.move x) ty m H v := fun o a w h1 h2 ha hh => by
  simp [execOp, h1, ha.eval hx]
theorem f_assign (hx : ev m x = some v) : Flt P n w0 F0 (.assign x) ty m H v := fun o a w h1 h2 ha hh => by
  simp [execOp, h1, ha.eval hx]
theorem f_pick {b : Bool} (hc : ev m c = some (.bool b)) (hx : ev m x = some vx) (hy : ev m y = some vy) : Flt P n w0 F0 (.pick c x y) ty m H (if b then vx else vy) :=
  fun o a w h1 h2 ha hh => by
    cases b <;> simp [execOp, h1, ha.eval hx, ha.eval hy, ha.eval hc, asBool]
theorem f_pick1 (hc : ev m c = some (.bool true)) (hx : ev m x = some vx) : Flt P n w0 F0 (.pick c x y) ty m H vx :=
  fun o a w h1 h2 ha hh => by simp [execOp, h1, ha.eval hx, ha.eval hc, asBool]
theorem f_pick0 (hc : ev m c = some (.bool false)) (hy : ev m y = some vy) : Flt P n w0 F0 (.pick c x y) ty m H vy :=
  fun o a w h1 h2 ha hh => by simp [execOp, h1, ha.eval hy, ha.eval hc, asBool]

/-! ### Two operands -/

theorem f_bin {op : BinOp} {xt yt : TypeId} (hx : ev m x = some vx) (hy : ev m y = some vy) (hg : ∀ w, (eqGuard op xt x y vx vy).run P w = .ok () w)
    (hb : ∀ w, (binOp op xt vx vy).run P w = .ok v w) : Flt P n w0 F0 (.binOp op xt x y yt) ty m H v := fun o a w h1 h2 ha hh => by
  simp only [execOp, h1, ha.eval hx, ha.eval hy, Sem.run_bind, hg, Result.andThen_ok, hb, Sem.run_pure]

theorem guard_int {op : BinOp} {xt : TypeId} (w : World) : (eqGuard op xt x y (.int k p) (.int k q)).run P w = .ok () w := by
  cases op <;> simp [eqGuard]
theorem guard_str {op : BinOp} {xt : TypeId} {s t : ByteArray} (w : World) : (eqGuard op xt x y (.string s) (.string t)).run P w = .ok () w := by
  cases op <;> simp [eqGuard]
theorem guard_bool {op : BinOp} {xt : TypeId} {s t : Bool} (w : World) : (eqGuard op xt x y (.bool s) (.bool t)).run P w = .ok () w := by
  cases op <;> simp [eqGuard]
theorem guard_ptr {op : BinOp} {xt : TypeId} {s t : Option Addr} (w : World) : (eqGuard op xt x y (.pointer s) (.pointer t)).run P w = .ok () w := by
  cases op <;> simp [eqGuard]

theorem f_int {op : BinOp} {xt yt : TypeId} (hx : ev m x = some (.int k p)) (hy : ev m y = some (.int k q)) (hb : ∀ w, (binOp op xt (.int k p) (.int k q)).run P w = .ok v w) :
    Flt P n w0 F0 (.binOp op xt x y yt) ty m H v := f_bin hx hy guard_int hb

variable {xt yt : TypeId}
-- sums that may wrap
theorem f_addw (hx : ev m x = some (.int k p)) (hy : ev m y = some (.int k q)) : Flt P n w0 F0 (.binOp .add xt x y yt) ty m H (.int k (k.wrap (p + q))) :=
  f_int hx hy fun w => by simp [binOp, Op.intArith]
theorem f_subw (hx : ev m x = some (.int k p)) (hy : ev m y = some (.int k q)) : Flt P n w0 F0 (.binOp .sub xt x y yt) ty m H (.int k (k.wrap (p - q))) :=
  f_int hx hy fun w => by simp [binOp, Op.intArith]
theorem f_mulw (hx : ev m x = some (.int k p)) (hy : ev m y = some (.int k q)) : Flt P n w0 F0 (.binOp .mul xt x y yt) ty m H (.int k (k.wrap (p * q))) :=
  f_int hx hy fun w => by simp [binOp, Op.intArith]
-- sums in range
theorem wrap_eq {k : IntKind} {x y : Int} (h : k.wrap x = y) : Value.int k (k.wrap x) = .int k y := by rw [h]
theorem f_addr (hx : ev m x = some (.int k p)) (hy : ev m y = some (.int k q)) (hr : k.wrap (p + q) = r) : Flt P n w0 F0 (.binOp .add xt x y yt) ty m H (.int k r) := hr ▸ f_addw hx hy
theorem f_subr (hx : ev m x = some (.int k p)) (hy : ev m y = some (.int k q)) (hr : k.wrap (p - q) = r) : Flt P n w0 F0 (.binOp .sub xt x y yt) ty m H (.int k r) := hr ▸ f_subw hx hy
theorem f_mulr (hx : ev m x = some (.int k p)) (hy : ev m y = some (.int k q)) (hr : k.wrap (p * q) = r) : Flt P n w0 F0 (.binOp .mul xt x y yt) ty m H (.int k r) := hr ▸ f_mulw hx hy
theorem f_add (hx : ev m x = some (.int .i64 p)) (hy : ev m y = some (.int .i64 q)) (hb : -9223372036854775808 ≤ p + q ∧ p + q ≤ 9223372036854775807) :
    Flt P n w0 F0 (.binOp .add xt x y yt) ty m H (.int .i64 (p + q)) := f_addr hx hy (IntWalk.i64_in _ hb)
theorem f_sub (hx : ev m x = some (.int .i64 p)) (hy : ev m y = some (.int .i64 q)) (hb : -9223372036854775808 ≤ p - q ∧ p - q ≤ 9223372036854775807) :
    Flt P n w0 F0 (.binOp .sub xt x y yt) ty m H (.int .i64 (p - q)) := f_subr hx hy (IntWalk.i64_in _ hb)
theorem f_mul (hx : ev m x = some (.int .i64 p)) (hy : ev m y = some (.int .i64 q)) (hb : -9223372036854775808 ≤ p * q ∧ p * q ≤ 9223372036854775807) :
    Flt P n w0 F0 (.binOp .mul xt x y yt) ty m H (.int .i64 (p * q)) := f_mulr hx hy (IntWalk.i64_in _ hb)
theorem f_addu (hx : ev m x = some (.int .u64 p)) (hy : ev m y = some (.int .u64 q)) (hb : 0 ≤ p + q ∧ p + q ≤ 18446744073709551615) :
    Flt P n w0 F0 (.binOp .add xt x y yt) ty m H (.int .u64 (p + q)) := f_addr hx hy (IntWalk.u64_in _ hb)
theorem f_subu (hx : ev m x = some (.int .u64 p)) (hy : ev m y = some (.int .u64 q)) (hb : 0 ≤ p - q ∧ p - q ≤ 18446744073709551615) :
    Flt P n w0 F0 (.binOp .sub xt x y yt) ty m H (.int .u64 (p - q)) := f_subr hx hy (IntWalk.u64_in _ hb)
theorem f_mulu (hx : ev m x = some (.int .u64 p)) (hy : ev m y = some (.int .u64 q)) (hb : 0 ≤ p * q ∧ p * q ≤ 18446744073709551615) :
    Flt P n w0 F0 (.binOp .mul xt x y yt) ty m H (.int .u64 (p * q)) := f_mulr hx hy (IntWalk.u64_in _ hb)
theorem f_quow (hx : ev m x = some (.int k p)) (hy : ev m y = some (.int k q)) (hq : q ≠ 0) (hr : k.wrap (p.tdiv q) = r) : Flt P n w0 F0 (.binOp .quo xt x y yt) ty m H (.int k r) :=
  f_int hx hy fun w => by simp [binOp, Op.intDiv, hq, hr]
theorem f_remw (hx : ev m x = some (.int k p)) (hy : ev m y = some (.int k q)) (hq : q ≠ 0) (hr : p.tmod q = r) : Flt P n w0 F0 (.binOp .rem xt x y yt) ty m H (.int k r) :=
  f_int hx hy fun w => by simp [binOp, Op.intDiv, hq, hr]
theorem f_quou (hx : ev m x = some (.int .u64 p)) (hy : ev m y = some (.int .u64 q)) (h0 : 0 ≤ p ∧ p ≤ 18446744073709551615 ∧ 1 ≤ q) : Flt P n w0 F0 (.binOp .quo xt x y yt) ty m H (.int .u64 (p / q)) :=
  f_quow hx hy (by omega) (IntWalk.u64_quo _ _ h0)
theorem f_quo (hx : ev m x = some (.int .i64 p)) (hy : ev m y = some (.int .i64 q)) (h0 : 0 ≤ p ∧ p ≤ 9223372036854775807 ∧ 1 ≤ q) : Flt P n w0 F0 (.binOp .quo xt x y yt) ty m H (.int .i64 (p / q)) :=
  f_quow hx hy (by omega) (IntWalk.i64_quo _ _ h0)
theorem f_rem (hx : ev m x = some (.int k p)) (hy : ev m y = some (.int k q)) (h0 : 0 ≤ p ∧ 1 ≤ q) : Flt P n w0 F0 (.binOp .rem xt x y yt) ty m H (.int k (p % q)) :=
  f_remw hx hy (by omega) (IntWalk.rem_in _ _ h0.1)
-- bits
theorem f_and (hx : ev m x = some (.int k p)) (hy : ev m y = some (.int k q)) (hr : bits .and k p q = r) : Flt P n w0 F0 (.binOp .and xt x y yt) ty m H (.int k r) :=
  f_int hx hy fun w => by subst hr; simp [binOp, Op.intBits, bits]
theorem f_or (hx : ev m x = some (.int k p)) (hy : ev m y = some (.int k q)) (hr : bits .or k p q = r) : Flt P n w0 F0 (.binOp .or xt x y yt) ty m H (.int k r) :=
  f_int hx hy fun w => by subst hr; simp [binOp, Op.intBits, bits]
theorem f_xor (hx : ev m x = some (.int k p)) (hy : ev m y = some (.int k q)) (hr : bits .xor k p q = r) : Flt P n w0 F0 (.binOp .xor xt x y yt) ty m H (.int k r) :=
  f_int hx hy fun w => by subst hr; simp [binOp, Op.intBits, bits]
theorem f_andNot (hx : ev m x = some (.int k p)) (hy : ev m y = some (.int k q)) (hr : bits .andNot k p q = r) : Flt P n w0 F0 (.binOp .andNot xt x y yt) ty m H (.int k r) :=
  f_int hx hy fun w => by subst hr; simp [binOp, Op.intBits, bits]
theorem f_shl {k' : IntKind} (hx : ev m x = some (.int k p)) (hy : ev m y = some (.int k' q)) (hq : 0 ≤ q) (hr : k.wrap (p * 2 ^ min q.toNat k.bits) = r) : Flt P n w0 F0 (.binOp .shl xt x y yt) ty m H (.int k r) :=
  f_bin hx hy (fun w => by simp [eqGuard]) fun w => by simp [binOp, Op.shift, Int.not_lt.2 hq, hr]
theorem f_shr {k' : IntKind} (hx : ev m x = some (.int k p)) (hy : ev m y = some (.int k' q)) (hq : 0 ≤ q) (hr : p.fdiv (2 ^ min q.toNat k.bits) = r) : Flt P n w0 F0 (.binOp .shr xt x y yt) ty m H (.int k r) :=
  f_bin hx hy (fun w => by simp [eqGuard]) fun w => by simp [binOp, Op.shift, Int.not_lt.2 hq, hr]
-- comparisons of integers
theorem f_lss (hx : ev m x = some (.int k p)) (hy : ev m y = some (.int k q)) : Flt P n w0 F0 (.binOp .lss xt x y yt) ty m H (.bool (decide (p < q))) :=
  f_int hx hy fun w => by simp [binOp, Op.intCmp]
theorem f_leq (hx : ev m x = some (.int k p)) (hy : ev m y = some (.int k q)) : Flt P n w0 F0 (.binOp .leq xt x y yt) ty m H (.bool (decide (p ≤ q))) :=
  f_int hx hy fun w => by simp [binOp, Op.intCmp]
theorem f_gtr (hx : ev m x = some (.int k p)) (hy : ev m y = some (.int k q)) : Flt P n w0 F0 (.binOp .gtr xt x y yt) ty m H (.bool (decide (q < p))) :=
  f_int hx hy fun w => by simp [binOp, Op.intCmp]
theorem f_geq (hx : ev m x = some (.int k p)) (hy : ev m y = some (.int k q)) : Flt P n w0 F0 (.binOp .geq xt x y yt) ty m H (.bool (decide (q ≤ p))) :=
  f_int hx hy fun w => by simp [binOp, Op.intCmp]
theorem f_eql (hx : ev m x = some (.int k p)) (hy : ev m y = some (.int k q)) : Flt P n w0 F0 (.binOp .eql xt x y yt) ty m H (.bool (decide (p = q))) :=
  f_int hx hy fun w => by simp only [binOp, Op.intCmp, ne_eq, not_true, if_false, Sem.run_pure]; congr 2
theorem f_neq (hx : ev m x = some (.int k p)) (hy : ev m y = some (.int k q)) : Flt P n w0 F0 (.binOp .neq xt x y yt) ty m H (.bool (decide (p ≠ q))) :=
  f_int hx hy fun w => by
    have : (p != q) = decide (p ≠ q) := by by_cases h : p = q <;> simp [h]
    simp [binOp, Op.intCmp, this]
-- strings
variable {s t : ByteArray}
theorem toList_inj {s t : ByteArray} : s.toList = t.toList ↔ s = t := by
  rw [ByteArray.toList_eq, ByteArray.toList_eq]
  constructor
  · intro h; cases s; cases t; simp only [ByteArray.mk.injEq]; exact Array.ext' h
  · rintro rfl; rfl
theorem f_eqv {op : Op} {v v' : Value} (h : Flt P n w0 F0 op ty m H v) (e : v = v') : Flt P n w0 F0 op ty m H v' := e ▸ h
theorem f_eqls (hx : ev m x = some (.string s)) (hy : ev m y = some (.string t)) : Flt P n w0 F0 (.binOp .eql xt x y yt) ty m H (.bool (decide (s = t))) :=
  f_bin hx hy guard_str fun w => by
    have : (s.toList == t.toList) = decide (s = t) := by by_cases h : s = t <;> simp [h, toList_inj]
    simp [binOp, Op.stringOp, this]
theorem f_neqs (hx : ev m x = some (.string s)) (hy : ev m y = some (.string t)) : Flt P n w0 F0 (.binOp .neq xt x y yt) ty m H (.bool (decide (s ≠ t))) :=
  f_bin hx hy guard_str fun w => by
    have : (s.toList == t.toList) = decide (s = t) := by by_cases h : s = t <;> simp [h, toList_inj]
    simp [binOp, Op.stringOp, this]
theorem f_lsss (hx : ev m x = some (.string s)) (hy : ev m y = some (.string t)) : Flt P n w0 F0 (.binOp .lss xt x y yt) ty m H (.bool (Op.bytesLess s.data.toList t.data.toList)) :=
  f_bin hx hy guard_str fun w => by simp [binOp, Op.stringOp, ByteArray.toList_eq]
theorem f_adds (hx : ev m x = some (.string s)) (hy : ev m y = some (.string t)) (hb : s.size + t.size ≤ 9223372036854775807) : Flt P n w0 F0 (.binOp .add xt x y yt) ty m H (.string (s ++ t)) :=
  f_bin hx hy guard_str fun w => by
    have h : ¬ (((s.size + t.size : Nat) : Int) > IntKind.i64.max) := by
      have e : IntKind.i64.max = 9223372036854775807 := by decide
      rw [e]; omega
    simp only [binOp, Op.stringOp, if_neg h, Sem.run_pure]
-- slices against nil
theorem eq_slnil (w : World) (d : Nat) (t e : TypeId) (a : Option Addr) (l c : Nat) (h : P.underlying t = some (.slice e)) : (Op.equalIn (d + 1) t (.slice a l c) (.slice .none 0 0)).run P w = .ok a.isNone w := by
  cases a <;> simp [Op.equalIn, run_underlying h]
theorem f_eqlslnil {a : Option Addr} {l c : Nat} (hx : ev m x = some (.slice a l c)) (hy : ev m y = some (.slice .none 0 0)) {pe : TypeId} (ht : P.underlying xt = some (.slice pe)) :
    Flt P n w0 F0 (.binOp .eql xt x y yt) ty m H (.bool a.isNone) := f_bin hx hy (fun w => by simp [eqGuard]) fun w => by
  have h' : (Op.equal xt (.slice a l c) (.slice .none 0 0)).run P w = .ok a.isNone w := eq_slnil w 9999 xt pe a l c ht
  simp [binOp, h']
-- pointers against nil
theorem f_eqlnil {a : Option Addr} (hx : ev m x = some (.pointer a)) (hy : ev m y = some (.pointer .none)) {pe : TypeId} (ht : P.underlying xt = some (.pointer pe)) :
    Flt P n w0 F0 (.binOp .eql xt x y yt) ty m H (.bool a.isNone) := f_bin hx hy guard_ptr fun w => by
  rw [run_eql_pointer_nil (P := P) w xt a (by simp [Program.pointee, ht])]
theorem f_neqnil {a : Option Addr} (hx : ev m x = some (.pointer a)) (hy : ev m y = some (.pointer .none)) {pe : TypeId} (ht : P.underlying xt = some (.pointer pe)) :
    Flt P n w0 F0 (.binOp .neq xt x y yt) ty m H (.bool a.isSome) := f_bin hx hy guard_ptr fun w => by
  rw [run_neq_pointer_nil (P := P) w xt a (by simp [Program.pointee, ht])]; cases a <;> rfl
theorem f_not {b : Bool} {op : UnOp} (ho : op = .not) (hx : ev m x = some (.bool b)) : Flt P n w0 F0 (.unOp op xt x) ty m H (.bool !b) := fun o a w h1 h2 ha hh => by
  subst ho; simp [execOp, h1, ha.eval hx, Op.unary]
theorem f_neg {op : UnOp} (ho : op = .neg) (hx : ev m x = some (.int k p)) (hr : k.wrap (0 - p) = r) : Flt P n w0 F0 (.unOp op xt x) ty m H (.int k r) := fun o a w h1 h2 ha hh => by
  subst ho; subst hr; simp [execOp, h1, ha.eval hx, Op.unary, Op.intArith]
-- conversions between integers
theorem f_convw {k' : IntKind} {src dst : TypeId} {ds : TypeDesc} (hx : ev m x = some (.int k p)) (hs : P.underlying src = some ds) (hd : P.underlying dst = some (.int k')) (hr : k'.wrap p = r) :
    Flt P n w0 F0 (.convert src dst x) ty m H (.int k' r) := fun o a w h1 h2 ha hh => by
  subst hr; simp [execOp, h1, ha.eval hx, convert, run_underlying hs, run_underlying hd, Conv.intToInt]
theorem f_convi {src dst : TypeId} {ds : TypeDesc} (hx : ev m x = some (.int k p)) (hs : P.underlying src = some ds) (hd : P.underlying dst = some (.int .i64)) (hb : -9223372036854775808 ≤ p ∧ p ≤ 9223372036854775807) :
    Flt P n w0 F0 (.convert src dst x) ty m H (.int .i64 p) := f_convw hx hs hd (IntWalk.i64_in _ hb)
theorem f_convu {src dst : TypeId} {ds : TypeDesc} (hx : ev m x = some (.int k p)) (hs : P.underlying src = some ds) (hd : P.underlying dst = some (.int .u64)) (hb : 0 ≤ p ∧ p ≤ 18446744073709551615) :
    Flt P n w0 F0 (.convert src dst x) ty m H (.int .u64 p) := f_convw hx hs hd (IntWalk.u64_in _ hb)
theorem f_convb {src dst : TypeId} {ds : TypeDesc} (hx : ev m x = some (.int k p)) (hs : P.underlying src = some ds) (hd : P.underlying dst = some (.int .u8)) (hb : 0 ≤ p ∧ p ≤ 255) :
    Flt P n w0 F0 (.convert src dst x) ty m H (.int .u8 p) := f_convw hx hs hd (IntWalk.u8_in _ hb)
-- strings to a string type
theorem f_convs {src dst : TypeId} (hx : ev m x = some (.string s)) (hs : P.underlying src = some .string) (hd : P.underlying dst = some .string) :
    Flt P n w0 F0 (.convert src dst x) ty m H (.string s) := fun o a w h1 h2 ha hh => by
  simp [execOp, h1, ha.eval hx, convert, run_underlying hs, run_underlying hd]

/-! ### len, index, slices of strings -/

theorem f_len {t : TypeId} {e : TypeId} {a0 : Option Addr} {len cap : Nat} (hx : ev m x = some (.slice a0 len cap)) (ht : P.underlying t = some (.slice e)) :
    Flt P n w0 F0 (.call { callee := .builtin .len, args := #[x], argTypes := #[t] }) ty m H (.int .i64 len) := fun o a w h1 h2 ha hh => by
  simp [execOp, h1, resolve, invoke, builtin, ha.eval hx, Builtin.len_, run_underlying ht, goInt]
theorem f_lens {t : TypeId} (hx : ev m x = some (.string s)) (ht : P.underlying t = some .string) :
    Flt P n w0 F0 (.call { callee := .builtin .len, args := #[x], argTypes := #[t] }) ty m H (.int .i64 s.size) := fun o a w h1 h2 ha hh => by
  simp [execOp, h1, resolve, invoke, builtin, ha.eval hx, Builtin.len_, run_underlying ht, goInt]
theorem f_min {ts : Array TypeId} (hx : ev m x = some (.int k p)) (hy : ev m y = some (.int k q)) (hr : (if q < p then q else p) = r) :
    Flt P n w0 F0 (.call { callee := .builtin .min, args := #[x, y], argTypes := ts }) ty m H (.int k r) := fun o a w h1 h2 ha hh => by
  subst hr; simp [execOp, h1, resolve, invoke, builtin, ha.eval hx, ha.eval hy, run_min_int2]
theorem f_max {ts : Array TypeId} (hx : ev m x = some (.int k p)) (hy : ev m y = some (.int k q)) (hr : (if q > p then q else p) = r) :
    Flt P n w0 F0 (.call { callee := .builtin .max, args := #[x, y], argTypes := ts }) ty m H (.int k r) := fun o a w h1 h2 ha hh => by
  subst hr; simp [execOp, h1, resolve, invoke, builtin, ha.eval hx, ha.eval hy, run_max_int2]
theorem f_indexs {b : UInt8} {i : Nat} (hx : ev m x = some (.string s)) (hy : ev m y = some (.int k p)) (ht : P.underlying xt = some .string) (hi : p = (i : Nat)) (hb : s.data[i]? = some b) :
    Flt P n w0 F0 (.index xt x y) ty m H (.int .u8 b.toNat) := fun o a w h1 h2 ha hh => by
  subst hi
  have hb' : s[i]? = some b := by
    have hlt : i < s.size := (Array.getElem?_eq_some_iff.1 hb).1
    rw [ByteArray.getElem?_lt' s i hlt]
    have := (Array.getElem?_eq_some_iff.1 hb).2
    exact congrArg some this
  simp [execOp, h1, ha.eval hx, ha.eval hy, Instr.index, asIntOf, run_underlying ht, hb']
theorem f_slices {lo hi : Option Operand} {l u : Nat} (hx : ev m x = some (.string s)) (ht : P.underlying xt = some .string)
    (hl : match lo with | .none => l = 0 | some z => ∃ k, ev m z = some (.int k (l : Nat)))
    (hu : match hi with | .none => u = s.size | some z => ∃ k, ev m z = some (.int k (u : Nat))) (hlu : l ≤ u) (hus : u ≤ s.size) :
    Flt P n w0 F0 (.slice xt x lo hi .none) ty m H (.string (s.extract l u)) := fun o a w h1 h2 ha hh => by
  have e1 : ¬ (u : Int) < (l : Int) := by omega
  cases lo with
  | none =>
    subst hl
    cases hi with
    | none => subst hu; simp [execOp, h1, ha.eval hx, Instr.sliceAt, run_underlying ht, Instr.slice, Instr.sliceBounds]
    | some z =>
      obtain ⟨k, hz⟩ := hu
      simp [execOp, h1, ha.eval hx, ha.eval hz, Instr.sliceAt, run_underlying ht, Instr.slice, Instr.sliceBounds, Instr.sliceBound, asIntOf, hus]
  | some z =>
    obtain ⟨k, hz⟩ := hl
    cases hi with
    | none => subst hu; simp [execOp, h1, ha.eval hx, ha.eval hz, Instr.sliceAt, run_underlying ht, Instr.slice, Instr.sliceBounds, Instr.sliceBound, asIntOf, hlu]
    | some z' =>
      obtain ⟨k', hz'⟩ := hu
      simp [execOp, h1, ha.eval hx, ha.eval hz, ha.eval hz', Instr.sliceAt, run_underlying ht, Instr.slice, Instr.sliceBounds, Instr.sliceBound, asIntOf, hlu, hus]

/-! ### Addresses, parts of values -/

theorem f_nilCheck {a0 : Addr} (hx : ev m x = some (.pointer (some a0))) : Flt P n w0 F0 (.nilCheck x) ty m H (.pointer (some a0)) := fun o a w h1 h2 ha hh => by
  simp [execOp, h1, ha.eval hx]
theorem f_fieldAddr (o' : Nat) {fs : Array Field} {f : Field} {i b off : Nat} (hx : ev m x = some (.pointer (some ⟨b, off, .none⟩))) (ht : P.underlying xt = some (.struct fs)) (hf : fs[i]? = some f) (hof : f.offset = o')
    (hz : (match P.info? f.type with | some i => Nat.beq i.size 0 | .none => true) = false) :
    Flt P n w0 F0 (.fieldAddr xt x i) ty m H (.pointer (some ⟨b, off + o', .none⟩)) := fun o a w h1 h2 ha hh => by
  subst hof
  have ⟨j, hj⟩ : ∃ j, P.info? f.type = some j := by
    cases h : P.info? f.type with
    | none => rw [h] at hz; cases hz
    | some j => exact ⟨j, rfl⟩
  have hz' : j.size ≠ 0 := by
    rw [hj] at hz
    intro h0
    simp [h0] at hz
  have hadd : (⟨b, off, .none⟩ : Addr).add f.offset = ⟨b, off + f.offset, .none⟩ := by
    unfold Addr.add; split <;> simp_all
  simp [execOp, h1, ha.eval hx, Instr.fieldAt, run_underlying ht, hf, Instr.sureAddr, fieldPlace, sizeOf, typeInfo, hj, hz', hadd]
theorem f_indexAddr (sz : Nat) {e i b off len cap : Nat} (hx : ev m x = some (.slice (some ⟨b, off, .none⟩) len cap)) (hy : ev m y = some (.int k p)) (ht : P.underlying xt = some (.slice e))
    (hs : (P.info? e).map (·.size) = some sz) (hi : p = (i : Nat)) (hlt : i < len) :
    Flt P n w0 F0 (.indexAddr xt x y) ty m H (.pointer (some ⟨b, off + i * sz, .none⟩)) := fun o a w h1 h2 ha hh => by
  subst hi
  obtain ⟨j, hj, hjs⟩ := Option.map_eq_some_iff.1 hs
  have hadd : (⟨b, off, .none⟩ : Addr).add (i * sz) = ⟨b, off + i * sz, .none⟩ := by
    unfold Addr.add; split <;> simp_all
  simp [execOp, h1, ha.eval hx, ha.eval hy, Instr.indexAt, asIntOf, run_underlying ht, hlt, sizeOf, typeInfo, hj, hjs, hadd]
/-- A slice of a slice. -/
theorem f_slice (sz : Nat) {e l u b off len cap : Nat} {lo hi : Option Operand} (hx : ev m x = some (.slice (some ⟨b, off, .none⟩) len cap)) (ht : P.underlying xt = some (.slice e))
    (hs : (P.info? e).map (·.size) = some sz)
    (hl : match lo with | .none => l = 0 | some z => ∃ k, ev m z = some (.int k (l : Nat)))
    (hu : match hi with | .none => u = len | some z => ∃ k, ev m z = some (.int k (u : Nat))) (hlu : l ≤ u) (hus : u ≤ cap) :
    Flt P n w0 F0 (.slice xt x lo hi .none) ty m H (.slice (some ⟨b, if cap = l then off else off + l * sz, .none⟩) (u - l) (cap - l)) := fun o a w h1 h2 ha hh => by
  obtain ⟨j, hj, hjs⟩ := Option.map_eq_some_iff.1 hs
  have hadd : ∀ z, (⟨b, off, .none⟩ : Addr).add z = ⟨b, off + z, .none⟩ := fun z => by
    unfold Addr.add; split <;> simp_all
  have key : (if cap = l then (some ⟨b, off, .none⟩ : Option Addr) else some ⟨b, off + l * sz, .none⟩) = some ⟨b, if cap = l then off else off + l * sz, .none⟩ := by split <;> rfl
  cases lo with
  | none =>
    subst hl
    cases hi with
    | none => subst hu; simp [execOp, h1, ha.eval hx, Instr.sliceAt, run_underlying ht, Instr.slice, Instr.sliceBounds, sizeOf, typeInfo, hj, hadd]
    | some z =>
      obtain ⟨k, hz⟩ := hu
      simp [execOp, h1, ha.eval hx, ha.eval hz, Instr.sliceAt, run_underlying ht, Instr.slice, Instr.sliceBounds, Instr.sliceBound, asIntOf, hus, sizeOf, typeInfo, hj, hadd]
  | some z =>
    obtain ⟨k, hz⟩ := hl
    cases hi with
    | none =>
      subst hu
      have e := key
      simp [execOp, h1, ha.eval hx, ha.eval hz, Instr.sliceAt, run_underlying ht, Instr.slice, Instr.sliceBounds, Instr.sliceBound, asIntOf, hlu, sizeOf, typeInfo, hj, hjs, hadd, e]
    | some z' =>
      obtain ⟨k', hz'⟩ := hu
      have e := key
      simp [execOp, h1, ha.eval hx, ha.eval hz, ha.eval hz', Instr.sliceAt, run_underlying ht, Instr.slice, Instr.sliceBounds, Instr.sliceBound, asIntOf, hlu, hus, sizeOf, typeInfo, hj, hjs, hadd, e]
/-- A slice of a slice, nil or not. -/
theorem f_sliceA (sz : Nat) {A : Option Addr} {e l u len cap : Nat} {lo hi : Option Operand} (hx : ev m x = some (.slice A len cap)) (ht : P.underlying xt = some (.slice e))
    (hs : (P.info? e).map (·.size) = some sz)
    (hl : match lo with | .none => l = 0 | some z => ∃ k, ev m z = some (.int k (l : Nat)))
    (hu : match hi with | .none => u = len | some z => ∃ k, ev m z = some (.int k (u : Nat))) (hlu : l ≤ u) (hus : u ≤ cap) :
    Flt P n w0 F0 (.slice xt x lo hi .none) ty m H (.slice (if cap = l then A else A.map (·.add (l * sz))) (u - l) (cap - l)) := fun o a w h1 h2 ha hh => by
  obtain ⟨j, hj, hjs⟩ := Option.map_eq_some_iff.1 hs
  subst hjs
  cases lo with
  | none =>
    subst hl
    cases hi with
    | none => subst hu; simp [execOp, h1, ha.eval hx, Instr.sliceAt, run_underlying ht, Instr.slice, Instr.sliceBounds, sizeOf, typeInfo, hj]
    | some z =>
      obtain ⟨k, hz⟩ := hu
      simp [execOp, h1, ha.eval hx, ha.eval hz, Instr.sliceAt, run_underlying ht, Instr.slice, Instr.sliceBounds, Instr.sliceBound, asIntOf, hus, sizeOf, typeInfo, hj]
  | some z =>
    obtain ⟨k, hz⟩ := hl
    cases hi with
    | none =>
      subst hu
      simp [execOp, h1, ha.eval hx, ha.eval hz, Instr.sliceAt, run_underlying ht, Instr.slice, Instr.sliceBounds, Instr.sliceBound, asIntOf, hlu, sizeOf, typeInfo, hj]
    | some z' =>
      obtain ⟨k', hz'⟩ := hu
      simp [execOp, h1, ha.eval hx, ha.eval hz, ha.eval hz', Instr.sliceAt, run_underlying ht, Instr.slice, Instr.sliceBounds, Instr.sliceBound, asIntOf, hlu, hus, sizeOf, typeInfo, hj]
theorem f_extract {vs : List Value} {i : Nat} (hx : ev m x = some (.tuple vs.toArray)) (hi : vs[i]? = some v) : Flt P n w0 F0 (.extract x i) ty m H v := fun o a w h1 h2 ha hh => by
  simp [execOp, h1, ha.eval hx, Instr.extract, hi]
/-- A field of a struct's value: one cell. -/
theorem f_field {fs : Array Field} {f : Field} {i : Nat} {cs : List Value} {d : TypeDesc} (hx : ev m x = some (.agg cs.toArray)) (ht : P.underlying xt = some (.struct fs)) (hf : fs[i]? = some f)
    (hd : P.underlying f.type = some d) (hagg : (match d with | .struct _ | .array _ _ => false | _ => true) = true) (hv : cs[f.offset]? = some v) :
    Flt P n w0 F0 (.field xt x i) ty m H v := fun o a w h1 h2 ha hh => by
  have : (isAgg f.type).run P w = .ok false w := by
    cases d <;> simp_all [isAgg, run_underlying hd]
  simp [execOp, h1, ha.eval hx, Instr.field, run_underlying ht, hf, asAgg, part, this, hv]
theorem f_build {t : TypeId} {parts : List (Nat × Operand)} {us : List (Nat × Value)} (hp : evps m parts = some us)
    (hb : ∀ w, (Instr.build t us.toArray).run P w = .ok v w) : Flt P n w0 F0 (.build t parts.toArray) ty m H v := fun o a w h1 h2 ha hh => by
  have e : (parts.toArray.map fun (i, x) => (i, a.eval x)) = us.toArray := by
    apply Array.ext'; simpa using ha.evparts _ hp
  simp only [execOp, h1, e, Sem.run_bind, hb, Result.andThen_ok, Sem.run_pure]
theorem f_makeFunc {fn : Fn} {first captured : Array Operand} {fs cs : List Value} (h1' : evs m first.toList = some fs) (h2' : evs m captured.toList = some cs) :
    Flt P n w0 F0 (.makeFunc fn first captured) ty m H (.func fn fs.toArray cs.toArray) := fun o a w h1 h2 ha hh => by
  have e1 : first.map a.eval = fs.toArray := by
    have := ha.evals _ h1'
    apply Array.ext'; simpa using this
  have e2 : captured.map a.eval = cs.toArray := by
    have := ha.evals _ h2'
    apply Array.ext'; simpa using this
  simp [execOp, h1, Instr.makeFunc, e1, e2]
end
end Go.Proofs.Ytkoklfagmbaapaa
