/- A program logic of my own over the model, and contracts of this program's functions by it: part 7. No conditions of its own: each theorem states its own. -/
import Derived.Test.YtgaeiadnclmadaaGreatDoorL6
set_option linter.unnecessarySimpa false
set_option linter.unusedSimpArgs false
set_option linter.unusedVariables false
/- For the seat r4: calls of Valid, computed. By program (mkaw4.py). -/
namespace Go.Tame.V
open Go Go.Proofs Go.Ev
variable {W0 : World}
set_option maxRecDepth 100000
set_option maxHeartbeats 0
set_option linter.unusedVariables false
noncomputable def v1a : List AV := [.agg [.str 0 0, .int .i64 (.ofNat 0), .str 0 0, .str 0 0, .int .i64 (.ofNat 0), .int .i64 (.ofNat 0), .int .i64 (.ofNat 0), .int .i64 (.ofNat 315532800), .int .i64 (.ofNat 0), .int .i64 (.ofNat 0), .sl 0 0 3 (.known 3), .sl0]]
noncomputable def v1s : Go.Ev.St := mkSt [.cells 2 36 (lay 2 [.str 1 97, .int .i64 (.ofNat 1), .str 1 97, .str 0 0, .int .i64 (.ofNat 0), .int .i64 (.ofNat 0), .int .i64 (.ofNat 0), .int .i64 (.ofNat 315532800), .int .i64 (.ofNat 0), .int .i64 (.ofNat 0), .sl0, .sl0, .str 1 100, .int .i64 (.ofNat 0), .str 0 0, .str 0 0, .int .i64 (.ofNat 5), .int .i64 (.ofNat 0), .int .i64 (.ofNat 0), .int .i64 (.ofNat 315532800), .int .i64 (.ofNat 0), .int .i64 (.ofNat 0), .sl 1 0 1 (.known 1), .sl0, .str 1 101, .int .i64 (.ofNat 0), .str 0 0, .str 0 0, .int .i64 (.ofNat 0), .int .i64 (.ofNat 0), .int .i64 (.ofNat 0), .int .i64 (.ofNat 315532800), .int .i64 (.ofNat 0), .int .i64 (.ofNat 0), .sl0, .sl0] 0 .nil) 25 12 false,
  .cells 2 12 (lay 2 [.str 1 98, .int .i64 (.ofNat 1), .str 1 98, .str 0 0, .int .i64 (.ofNat 0), .int .i64 (.ofNat 0), .int .i64 (.ofNat 0), .int .i64 (.ofNat 315532800), .int .i64 (.ofNat 0), .int .i64 (.ofNat 0), .sl0, .sl0] 0 .nil) 25 12 false]
theorem v1_run : runC (tabO libL) Tryz.prog 200 29 v1a v1s (.bool true) = true := by decide +kernel
theorem v1_ora (hL : LibOk W0) : OraOk Tryz.prog W0 29 (puO (memo v1s v1a (.bool true))) := runC_ok rfl (tabO_ok (libL_ok hL)) v1_run rfl rfl
noncomputable def v2a : List AV := [.agg [.str 0 0, .int .i64 (.ofNat 0), .str 0 0, .str 0 0, .int .i64 (.ofNat 0), .int .i64 (.ofNat 0), .int .i64 (.ofNat 0), .int .i64 (.ofNat 315532800), .int .i64 (.ofNat 0), .int .i64 (.ofNat 0), .sl0, .sl0]]
noncomputable def v2s : Go.Ev.St := mkSt []
theorem v2_run : runC (tabO libL) Tryz.prog 200 29 v2a v2s (.bool true) = true := by decide +kernel
theorem v2_ora (hL : LibOk W0) : OraOk Tryz.prog W0 29 (puO (memo v2s v2a (.bool true))) := runC_ok rfl (tabO_ok (libL_ok hL)) v2_run rfl rfl
noncomputable def v3a : List AV := [.agg [.str 0 0, .int .i64 (.ofNat 0), .str 0 0, .str 0 0, .int .i64 (.ofNat 0), .int .i64 (.ofNat 0), .int .i64 (.ofNat 0), .int .i64 (.ofNat 315532800), .int .i64 (.ofNat 0), .int .i64 (.ofNat 0), .sl 0 0 1 (.rest 0), .sl0]]
noncomputable def v3s : Go.Ev.St := mkSt [.cells 2 12 (lay 2 [.str 1 97, .int .i64 (.ofNat 1), .str 1 97, .str 0 0, .int .i64 (.ofNat 0), .int .i64 (.ofNat 0), .int .i64 (.ofNat 0), .int .i64 (.ofNat 315532800), .int .i64 (.ofNat 0), .int .i64 (.ofNat 0), .sl0, .sl0] 0 .nil) 25 12 true]
theorem v3_run : runC (tabO libL) Tryz.prog 200 29 v3a v3s (.bool true) = true := by decide +kernel
theorem v3_ora (hL : LibOk W0) : OraOk Tryz.prog W0 29 (puO (memo v3s v3a (.bool true))) := runC_ok rfl (tabO_ok (libL_ok hL)) v3_run rfl rfl
noncomputable def v4a : List AV := [.agg [.str 0 0, .int .i64 (.ofNat 0), .str 0 0, .str 0 0, .int .i64 (.ofNat 0), .int .i64 (.ofNat 0), .int .i64 (.ofNat 0), .int .i64 (.ofNat 315532800), .int .i64 (.ofNat 0), .int .i64 (.ofNat 0), .sl 0 0 3 (.rest 0), .sl0]]
noncomputable def v4s : Go.Ev.St := mkSt [.cells 2 36 (lay 2 [.str 1 97, .int .i64 (.ofNat 1), .str 1 97, .str 0 0, .int .i64 (.ofNat 0), .int .i64 (.ofNat 0), .int .i64 (.ofNat 0), .int .i64 (.ofNat 315532800), .int .i64 (.ofNat 0), .int .i64 (.ofNat 0), .sl0, .sl0, .str 1 100, .int .i64 (.ofNat 0), .str 0 0, .str 0 0, .int .i64 (.ofNat 5), .int .i64 (.ofNat 0), .int .i64 (.ofNat 0), .int .i64 (.ofNat 315532800), .int .i64 (.ofNat 0), .int .i64 (.ofNat 0), .sl 1 0 1 (.rest 0), .sl0, .str 1 101, .int .i64 (.ofNat 0), .str 0 0, .str 0 0, .int .i64 (.ofNat 0), .int .i64 (.ofNat 0), .int .i64 (.ofNat 0), .int .i64 (.ofNat 315532800), .int .i64 (.ofNat 0), .int .i64 (.ofNat 0), .sl0, .sl0] 0 .nil) 25 12 true,
  .cells 2 12 (lay 2 [.str 1 98, .int .i64 (.ofNat 1), .str 1 98, .str 0 0, .int .i64 (.ofNat 0), .int .i64 (.ofNat 0), .int .i64 (.ofNat 0), .int .i64 (.ofNat 315532800), .int .i64 (.ofNat 0), .int .i64 (.ofNat 0), .sl0, .sl0] 0 .nil) 25 12 true]
theorem v4_run : runC (tabO libL) Tryz.prog 200 29 v4a v4s (.bool true) = true := by decide +kernel
theorem v4_ora (hL : LibOk W0) : OraOk Tryz.prog W0 29 (puO (memo v4s v4a (.bool true))) := runC_ok rfl (tabO_ok (libL_ok hL)) v4_run rfl rfl
noncomputable def v5a : List AV := [.agg [.str 0 0, .int .i64 (.ofNat 0), .str 0 0, .str 0 0, .int .i64 (.ofNat 0), .int .i64 (.ofNat 0), .int .i64 (.ofNat 0), .int .i64 (.ofNat 315532800), .int .i64 (.ofNat 0), .int .i64 (.ofNat 0), .sl 0 0 2 (.rest 0), .sl0]]
noncomputable def v5s : Go.Ev.St := mkSt [.cells 2 24 (lay 2 [.str 1 97, .int .i64 (.ofNat 1), .str 1 97, .str 0 0, .int .i64 (.ofNat 0), .int .i64 (.ofNat 0), .int .i64 (.ofNat 0), .int .i64 (.ofNat 315532800), .int .i64 (.ofNat 0), .int .i64 (.ofNat 0), .sl0, .sl0, .str 1 100, .int .i64 (.ofNat 0), .str 0 0, .str 0 0, .int .i64 (.ofNat 5), .int .i64 (.ofNat 0), .int .i64 (.ofNat 0), .int .i64 (.ofNat 315532800), .int .i64 (.ofNat 0), .int .i64 (.ofNat 0), .sl 1 0 1 (.rest 0), .sl0] 0 .nil) 25 12 true,
  .cells 2 12 (lay 2 [.str 1 98, .int .i64 (.ofNat 1), .str 1 98, .str 0 0, .int .i64 (.ofNat 0), .int .i64 (.ofNat 0), .int .i64 (.ofNat 0), .int .i64 (.ofNat 315532800), .int .i64 (.ofNat 0), .int .i64 (.ofNat 0), .sl0, .sl0] 0 .nil) 25 12 true]
theorem v5_run : runC (tabO libL) Tryz.prog 200 29 v5a v5s (.bool true) = true := by decide +kernel
theorem v5_ora (hL : LibOk W0) : OraOk Tryz.prog W0 29 (puO (memo v5s v5a (.bool true))) := runC_ok rfl (tabO_ok (libL_ok hL)) v5_run rfl rfl
noncomputable def v6a : List AV := [.agg [.str 0 0, .int .i64 (.ofNat 0), .str 0 0, .str 0 0, .int .i64 (.ofNat 0), .int .i64 (.ofNat 0), .int .i64 (.ofNat 0), .int .i64 (.ofNat 315532800), .int .i64 (.ofNat 0), .int .i64 (.ofNat 0), .sl 0 0 2 (.rest 0), .sl0]]
noncomputable def v6s : Go.Ev.St := mkSt [.cells 2 24 (lay 2 [.str 1 100, .int .i64 (.ofNat 0), .str 0 0, .str 0 0, .int .i64 (.ofNat 5), .int .i64 (.ofNat 0), .int .i64 (.ofNat 0), .int .i64 (.ofNat 315532800), .int .i64 (.ofNat 0), .int .i64 (.ofNat 0), .sl 1 0 1 (.rest 0), .sl0, .str 1 101, .int .i64 (.ofNat 0), .str 0 0, .str 0 0, .int .i64 (.ofNat 0), .int .i64 (.ofNat 0), .int .i64 (.ofNat 0), .int .i64 (.ofNat 315532800), .int .i64 (.ofNat 0), .int .i64 (.ofNat 0), .sl0, .sl0] 0 .nil) 25 12 true,
  .cells 2 12 (lay 2 [.str 1 98, .int .i64 (.ofNat 1), .str 1 98, .str 0 0, .int .i64 (.ofNat 0), .int .i64 (.ofNat 0), .int .i64 (.ofNat 0), .int .i64 (.ofNat 315532800), .int .i64 (.ofNat 0), .int .i64 (.ofNat 0), .sl0, .sl0] 0 .nil) 25 12 true]
theorem v6_run : runC (tabO libL) Tryz.prog 200 29 v6a v6s (.bool true) = true := by decide +kernel
theorem v6_ora (hL : LibOk W0) : OraOk Tryz.prog W0 29 (puO (memo v6s v6a (.bool true))) := runC_ok rfl (tabO_ok (libL_ok hL)) v6_run rfl rfl
noncomputable def o29 : List AV → Go.Ev.St → Option (AV × Go.Ev.St) := orO (puO (memo v1s v1a (.bool true))) (orO (puO (memo v2s v2a (.bool true))) (orO (puO (memo v3s v3a (.bool true))) (orO (puO (memo v4s v4a (.bool true))) (orO (puO (memo v5s v5a (.bool true))) (puO (memo v6s v6a (.bool true)))))))
theorem o29_ok (hL : LibOk W0) : OraOk Tryz.prog W0 29 o29 := orO_ok (v1_ora hL) (orO_ok (v2_ora hL) (orO_ok (v3_ora hL) (orO_ok (v4_ora hL) (orO_ok (v5_ora hL) (v6_ora hL)))))
noncomputable def libL2 : List (Nat × (List AV → Go.Ev.St → Option (AV × Go.Ev.St))) := (29, o29) :: libL
theorem libL2_ok (hL : LibOk W0) : ∀ p ∈ libL2, OraOk Tryz.prog W0 p.1 p.2 := by
  intro p hp
  rcases List.mem_cons.1 hp with rfl | hp
  · exact o29_ok hL
  · exact libL_ok hL p hp
end Go.Tame.V
