/- A program logic of my own over the model, and contracts of this program's functions by it: part 11. No conditions of its own: each theorem states its own. -/
import Derived.Test.YtgaeiadnclmadaaGreatDoorL10
set_option linter.unnecessarySimpa false
set_option linter.unusedSimpArgs false
set_option linter.unusedVariables false
/- For the seat r4: a call of count,computed. By program (mkaw4.py). -/
namespace Go.Tame.V
open Go Go.Proofs Go.Ev
variable {W0 : World}
set_option maxRecDepth 100000
set_option maxHeartbeats 0
set_option linter.unusedVariables false
noncomputable def c4a : List AV:=[.agg [.str 0 0,.int .i64 (.ofNat 0),.str 0 0,.str 0 0,.int .i64 (.ofNat 0),.int .i64 (.ofNat 0),.int .i64 (.ofNat 0),.int .i64 (.ofNat 315532800),.int .i64 (.ofNat 0),.int .i64 (.ofNat 0),.sl 0 0 3 (.known 3),.sl0],.agg [.str 1 86,.str 0 0,.str 0 0,.str 0 0,.str 0 0,.int .i64 (.ofNat 1),.int .i64 (.ofNat 1),.int .i64 (.ofNat 315532800),.int .i64 (.ofNat 1),.int .i64 (.ofNat 0),.sl0,.int .i64 (.ofNat 0),.bool false],.int .i64 (.ofNat 300),.sl 2 0 3 (.rest 0)]
noncomputable def c4s : Go.Ev.St:=mkSt [.cells 2 36 (lay 2 [.str 1 97,.int .i64 (.ofNat 1),.str 1 97,.str 0 0,.int .i64 (.ofNat 0),.int .i64 (.ofNat 0),.int .i64 (.ofNat 0),.int .i64 (.ofNat 315532800),.int .i64 (.ofNat 0),.int .i64 (.ofNat 0),.sl0,.sl0,.str 1 100,.int .i64 (.ofNat 0),.str 0 0,.str 0 0,.int .i64 (.ofNat 5),.int .i64 (.ofNat 0),.int .i64 (.ofNat 0),.int .i64 (.ofNat 315532800),.int .i64 (.ofNat 0),.int .i64 (.ofNat 0),.sl 1 0 1 (.known 1),.sl0,.str 1 101,.int .i64 (.ofNat 0),.str 0 0,.str 0 0,.int .i64 (.ofNat 0),.int .i64 (.ofNat 0),.int .i64 (.ofNat 0),.int .i64 (.ofNat 315532800),.int .i64 (.ofNat 0),.int .i64 (.ofNat 0),.sl0,.sl0] 0 .nil) 25 12 false,
 .cells 2 12 (lay 2 [.str 1 98,.int .i64 (.ofNat 1),.str 1 98,.str 0 0,.int .i64 (.ofNat 0),.int .i64 (.ofNat 0),.int .i64 (.ofNat 0),.int .i64 (.ofNat 315532800),.int .i64 (.ofNat 0),.int .i64 (.ofNat 0),.sl0,.sl0] 0 .nil) 25 12 false,
 .cells 1 3 (lay 1 [.str 1 97,.str 3 6565730,.str 1 101] 0 .nil) 9 1 true]
theorem c4_run : runC (tabO libL2) Tryz.prog 200 55 c4a c4s (.int .i64 (.ofNat 0)) = true:=by decide +kernel
theorem c4_ora (hL : LibOk W0) : OraOk Tryz.prog W0 55 (puO (memo c4s c4a (.int .i64 (.ofNat 0)))):=runC_ok rfl (tabO_ok (libL2_ok hL)) c4_run rfl rfl
end Go.Tame.V
