/- A program logic of my own over the model, and contracts of this program's functions by it: part 14. No conditions of its own: each theorem states its own. -/
import Derived.Test.YtmfnglbfpidmkaaGreatDoorL13
set_option linter.unnecessarySimpa false
set_option linter.unusedSimpArgs false
set_option linter.unusedVariables false
/- Chapter 30 (seat r7): its example, piece by piece. By program (mkg7.py). -/
namespace Go.Tame.V
open Go Go.Proofs Go.Ev
set_option maxRecDepth 100000
set_option maxHeartbeats 0
theorem g3 : chkP (tabO libM1) Tryz.prog 200 4 4 2 (mkTl p2t) (mkSl p2s p2n) p3t p3s p3n = true := by kernel_rfl
end Go.Tame.V
