/- A program logic of my own over the model, and contracts of this program's functions by it: part 13. No conditions of its own: each theorem states its own. -/
import Derived.Test.YtppjigbglfglnaaGreatDoorL12
set_option linter.unnecessarySimpa false
set_option linter.unusedSimpArgs false
set_option linter.unusedVariables false
set_option maxRecDepth 100000
set_option maxHeartbeats 16000000
namespace Go.Tame.V
open Go Go.Proofs Go.Ev
set_option maxRecDepth 100000
set_option maxHeartbeats 0
theorem h4 : resB (tabO libN) Tryz.prog 200 4 6 (mkTl q3t) (mkSl q3s q3n) = true:=by kernel_rfl
end Go.Tame.V
