/- The proof kit, seventeenth part: what is walked without a fence holds in code that holds a range, ahead of it. -/
import Derived.Test.YtkoklfagmbaapaaK16
namespace Go.Proofs.Ytkoklfagmbaapaa
open Go.RowKit
section
variable {P : Program} {n : Nat} {w0 : World} {F0 : Nat → Prop} {N R : CondG} {X : Nat → CondG} {m : Env} {H : List Res} {w : World}
theorem g_of_w {c : Code} (h : W P n w0 F0 c (N []) (R []) (fun i => X i []) m H w) : G P n w0 F0 .none c N R X [] m H w := fun a ha hh => by
  rw [bk_nil]
  refine (wpIn_wide (n := 0)).2 (wp_mono (h a ha hh) fun e a' w' hq => ?_)
  cases e with
  | normal => obtain ⟨m, H, h1, h2, h3⟩ := hq; exact ⟨[], a', m, H, (bk_nil a').symm, h1, h2, h3⟩
  | ret => obtain ⟨m, H, h1, h2, h3⟩ := hq; exact ⟨[], a', m, H, (bk_nil a').symm, h1, h2, h3⟩
  | exit id => obtain ⟨m, H, h1, h2, h3⟩ := hq; exact ⟨[], a', m, H, (bk_nil a').symm, h1, h2, h3⟩
  | goto l => exact hq
  | panic c => exact hq
  | outgrown => exact hq
end
end Go.Proofs.Ytkoklfagmbaapaa
