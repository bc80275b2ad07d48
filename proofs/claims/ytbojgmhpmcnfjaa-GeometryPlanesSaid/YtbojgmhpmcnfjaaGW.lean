import Derived.Test.YtbojgmhpmcnfjaaProg
import Derived.Test.YtbojgmhpmcnfjaaGA
import Derived.Test.YtbojgmhpmcnfjaaPvC
import Derived.KernelRfl
/- Part of the proofs over Ytbojgmhpmcnfjaa: HA. -/
set_option linter.unusedVariables false
set_option linter.unusedSimpArgs false
set_option linter.unnecessarySimpa false
open Go Go.Proofs Go.Pv
set_option maxHeartbeats 4000000
set_option maxRecDepth 100000
set_option linter.unusedVariables false
namespace Go.Pv.Geo
def okB (o : Option Outc) : Bool := match o with | some (.ret (.bool b)) => b | _ => false
theorem okB_ok {f : FuncId} {ds : List D} {n k : Nat} (h : okB (runF Try.prog n k f ds) = true) : Contract Try.prog f ds (.ret (.bool true)) := by
  refine runF_ok mix k f ds _ (fuel := n) ?_
  unfold okB at h
  split at h
  · rename_i b hb; rw [hb, h]
  · cases h
/-- The document's examples hold: worked out. -/
theorem c_awake : Contract Try.prog 19 [] (.ret (.bool true)) := okB_ok (n := 100) (k := 14) (by kernel_rfl)
end Go.Pv.Geo
