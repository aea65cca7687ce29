/- A program logic of my own over the model, and contracts of this program's functions by it: part 9. No conditions of its own: each theorem states its own. -/
import Derived.Test.YtppjigbglfglnaaGreatDoorL8
set_option linter.unnecessarySimpa false
set_option linter.unusedSimpArgs false
set_option linter.unusedVariables false
set_option maxRecDepth 100000
set_option maxHeartbeats 16000000
namespace Go.Tame.V
open Go Go.Proofs Go.Ev
set_option maxRecDepth 100000
set_option maxHeartbeats 0
noncomputable def a35 : List AV:=[.agg [.str 4 1145656131,.str 0 0,.str 0 0,.str 0 0,.str 0 0,.int .i64 (.ofNat 1),.int .i64 (.ofNat 1),.int .i64 (.ofNat 315532800)],.agg [.str 0 0,.int .i64 (.ofNat 0),.str 0 0,.str 0 0,.int .i64 (.ofNat 493),.int .i64 (.ofNat 0),.int .i64 (.ofNat 0),.int .i64 (.ofNat 315532800),.int .i64 (.ofNat 0),.int .i64 (.ofNat 0),.sl 0 0 1 (.known 1),.sl0],.sl 1 0 1 (.known 1),.agg [.int .i64 (.ofNat 0),.int .i64 (.ofNat 40)],.agg [.int .i64 (.ofNat 20),.int .i64 (.ofNat 5)],.agg [.bool false,.bool true,.int .i64 (.ofNat 0),.sl0]]
noncomputable def s35 : Go.Ev.St:=mkSt [.cells 2 12 (lay 2 [.str 1 102,.int .i64 (.ofNat 1),.str 5 448378203247,.str 0 0,.int .i64 (.ofNat 0),.int .i64 (.ofNat 0),.int .i64 (.ofNat 0),.int .i64 (.ofNat 315532800),.int .i64 (.ofNat 0),.int .i64 (.ofNat 0),.sl0,.sl0] 0 .nil) 31 12 false,.cells 1 3 (lay 1 [.str 1 102,.int .i64 (.ofNat 30),.int .i64 (.ofNat 5)] 0 .nil) 39 3 false]
theorem m35 : runC (tabO libN) Tryz.prog 200 35 a35 s35 (.int .i64 (.ofNat 0)) = true:=by kernel_rfl
theorem o35 {W : World} (hL : LibOk W) : OraOk Tryz.prog (wx Tryz.prog W) 35 (puO (memo s35 a35 (.int .i64 (.ofNat 0)))):=runC_ok mixed (tabO_ok (libN_ok hL)) (by decide) m35 rfl rfl
noncomputable def libQ : List (Nat × (List AV → Go.Ev.St → Option (AV × Go.Ev.St))):=(35,puO (memo s35 a35 (.int .i64 (.ofNat 0))))::libN
theorem libQ_ok {W : World} (hL : LibOk W) : ∀ p ∈ libQ,OraOk Tryz.prog (wx Tryz.prog W) p.1 p.2:=by
 intro p hp
 rcases List.mem_cons.1 hp with rfl | hp
 ·exact o35 hL
 ·exact libN_ok hL p hp
end Go.Tame.V
