/- A program logic of my own over the model, and contracts of this program's functions by it: part 10. No conditions of its own: each theorem states its own. -/
import Derived.Test.YtmfnglbfpidmkaaGreatDoorL9
set_option linter.unnecessarySimpa false
set_option linter.unusedSimpArgs false
set_option linter.unusedVariables false
/- Chapter 30 (seat r7): its example, piece by piece. By program (mkg7.py). -/
namespace Go.Tame.V
open Go Go.Proofs Go.Ev
set_option maxRecDepth 100000
set_option maxHeartbeats 0
noncomputable def v31a : AV := .tup [.agg [.int .i64 (.ofNat 1), .int .i64 (.ofNat 0), .str 4 1145656131, .str 0 0, .str 0 0, .str 0 0, .str 10 364827262046176629314371, .int .i64 (.ofNat 1), .int .i64 (.ofNat 1), .int .i64 (.ofNat 315532800), .int .i64 (.ofNat 0), .int .i64 (.ofNat 40), .int .i64 (.ofNat 10), .int .i64 (.ofNat 20), .int .i64 (.ofNat 21), .str 1 0, .int .i64 (.ofNat 22), .int .i64 (.ofNat 2048), .int .i64 (.ofNat 315532800), .int .i64 (.ofNat 0), .int .i64 (.ofNat 2), .int .i64 (.ofNat 1), .str 0 0], .int .i64 (.ofNat 0)]
noncomputable def v31b : AV := .tup [.agg [.int .i64 (.ofNat 255), .int .i64 (.ofNat 0), .str 0 0, .str 0 0, .str 0 0, .str 0 0, .str 0 0, .int .i64 (.ofNat 0), .int .i64 (.ofNat 0), .int .i64 (.ofNat 0), .int .i64 (.ofNat 0), .int .i64 (.ofNat 0), .int .i64 (.ofNat 0), .int .i64 (.ofNat 0), .int .i64 (.ofNat 0), .str 0 0, .int .i64 (.ofNat 0), .int .i64 (.ofNat 0), .int .i64 (.ofNat 0), .int .i64 (.ofNat 0), .int .i64 (.ofNat 0), .int .i64 (.ofNat 0), .str 0 0], .int .i64 (.ofNat 0)]
noncomputable def v29 : AV := .tup [.agg [.int .i64 (.ofNat 0), .int .i64 (.ofNat 40), .int .i64 (.ofNat 40), .str 4 1145656131, .str 0 0, .str 0 0, .str 0 0, .str 10 364827262046176629314371, .int .i64 (.ofNat 1), .int .i64 (.ofNat 1), .int .i64 (.ofNat 315532800), .int .i64 (.ofNat 5), .str 0 0, .int .i64 (.ofNat 0), .str 0 0, .str 0 0, .int .i64 (.ofNat 0), .int .i64 (.ofNat 0), .int .i64 (.ofNat 0), .int .i64 (.ofNat 315532800), .int .i64 (.ofNat 0), .int .i64 (.ofNat 0), .sl0, .sl0, .str 0 0, .int .i64 (.ofNat 0), .str 0 0, .str 0 0, .int .i64 (.ofNat 0), .int .i64 (.ofNat 0), .int .i64 (.ofNat 0), .int .i64 (.ofNat 0), .int .i64 (.ofNat 0), .int .i64 (.ofNat 0), .sl0, .sl0, .str 0 0, .int .i64 (.ofNat 0), .str 0 0, .str 0 0, .int .i64 (.ofNat 493), .int .i64 (.ofNat 0), .int .i64 (.ofNat 0), .int .i64 (.ofNat 315532800), .int .i64 (.ofNat 0), .int .i64 (.ofNat 0), .sl0, .sl0, .sl0, .sl0, .sl0, .sl0], .int .i64 (.ofNat 0), .int .i64 (.ofNat 0)]
noncomputable def a29 : List AV := [.sl 0 0 40 (.known 40), .agg [.int .i64 (.ofNat 0), .int .i64 (.ofNat 40)]]
theorem m31a : runC (tabO libL) Tryz.prog 200 31 [.str 2048 bg0] (mkSt []) v31a = true := by kernel_rfl
theorem m31b : runC (tabO libL) Tryz.prog 200 31 [.str 2048 bg1] (mkSt []) v31b = true := by kernel_rfl
theorem m31c : runC (tabO libL) Tryz.prog 200 31 [.str 2048 bg5] (mkSt []) v31a = true := by kernel_rfl
end Go.Tame.V
