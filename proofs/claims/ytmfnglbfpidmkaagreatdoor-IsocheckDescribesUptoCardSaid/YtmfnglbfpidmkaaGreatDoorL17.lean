/- A program logic of my own over the model, and contracts of this program's functions by it: part 17. No conditions of its own: each theorem states its own. -/
import Derived.Test.YtmfnglbfpidmkaaGreatDoorL16
set_option linter.unnecessarySimpa false
set_option linter.unusedSimpArgs false
set_option linter.unusedVariables false
/- Chapter 30 (seat r7): its example, piece by piece. By program (mkg7.py). -/
namespace Go.Tame.V
open Go Go.Proofs Go.Ev
set_option maxRecDepth 100000
set_option maxHeartbeats 0
theorem Q4 {W : World} (hL : LibOk W) : DFun Tryz.prog W 4 [] (.bool true) :=
  dfun_of_rest (hasB Tryz.func4 rfl (by decide +kernel)) (rest_piece mixed (hO0 hL) g1 (rest_piece mixed (hO0 hL) g2 (rest_piece mixed (tabO_ok (libM1_ok hL)) g3 (rest_piece mixed (tabO_ok (libM2_ok hL)) g4 (rest_end mixed (hO0 hL) g5)))))
end Go.Tame.V
