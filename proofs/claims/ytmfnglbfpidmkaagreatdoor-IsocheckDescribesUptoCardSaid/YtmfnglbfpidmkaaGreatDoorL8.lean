/- A program logic of my own over the model, and contracts of this program's functions by it: part 8. No conditions of its own: each theorem states its own. -/
import Derived.Test.YtmfnglbfpidmkaaGreatDoorL7
set_option linter.unnecessarySimpa false
set_option linter.unusedSimpArgs false
set_option linter.unusedVariables false
/- Chapter 30 (seat r7): its example, piece by piece. By program (mkg7.py). -/
namespace Go.Tame.V
open Go Go.Proofs Go.Ev
set_option maxRecDepth 100000
set_option maxHeartbeats 0
theorem g1 : chkP (tabO libL) Tryz.prog 200 4 0 3 T0 S0 p1t p1s p1n = true := by kernel_rfl
end Go.Tame.V
