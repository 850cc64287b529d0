/- What stands behind the site's question in WitnessGrants. -/
import Derived.Test.YtmgnpjaemjpamaaAO
set_option linter.unusedSimpArgs false
set_option linter.unusedVariables false
namespace Go.Proofs.Ytmgnpjaemjpamaa
open Go.RowKit
attribute [local go_sem] st0 st1 st2 st3 st4 st5 st6 st7 st8 st9 st10 st11 st12 st13 st14 st95

/-- Behind the site's question. -/
def GraMid (W : World) (mc : Array Value) (v8 v9 : Value) (w' : World) : Prop :=
  v9 = .int .i64 0 ∧ ∃ mb, v8 = .pointer (some ⟨mb, 0, none⟩) ∧ W.heap.size ≤ mb ∧ Blk w' mb mc ∧ Below W.heap.size W w'

end Go.Proofs.Ytmgnpjaemjpamaa
