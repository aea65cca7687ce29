/- A program logic of my own over the model, and contracts of this program's functions by it: part 13. No conditions of its own: each theorem states its own. -/
import Derived.Test.YtmfnglbfpidmkaaGreatDoorL12
set_option linter.unnecessarySimpa false
set_option linter.unusedSimpArgs false
set_option linter.unusedVariables false
/- Chapter 30 (seat r7): its example, piece by piece. By program (mkg7.py). -/
namespace Go.Tame.V
open Go Go.Proofs Go.Ev
set_option maxRecDepth 100000
set_option maxHeartbeats 0
variable {W : World}
noncomputable def libM1 : List (Nat × (List AV → Go.Ev.St → Option (AV × Go.Ev.St))) := (29, puO (memo (mkSt [im1]) a29 v29)) :: (31, orO (puO (memo (mkSt []) [.str 2048 bg0] v31a)) (puO (memo (mkSt []) [.str 2048 bg1] v31b))) :: libL
noncomputable def libM2 : List (Nat × (List AV → Go.Ev.St → Option (AV × Go.Ev.St))) := (29, puO (memo (mkSt [im2]) a29 v29)) :: (31, orO (puO (memo (mkSt []) [.str 2048 bg5] v31a)) (puO (memo (mkSt []) [.str 2048 bg1] v31b))) :: libL
theorem hO0 (hL : LibOk W) : ∀ f g, tabO libL f = some g → OraOk Tryz.prog (wx Tryz.prog W) f g := tabO_ok (libL_ok hL)
theorem libM1_ok (hL : LibOk W) : ∀ p ∈ libM1, OraOk Tryz.prog (wx Tryz.prog W) p.1 p.2 := by
  intro p hp
  rcases List.mem_cons.1 hp with rfl | hp
  · exact runC_ok mixed (hO0 hL) (by decide) m29a (by kernel_rfl) (by kernel_rfl)
  rcases List.mem_cons.1 hp with rfl | hp
  · exact orO_ok (runC_ok mixed (hO0 hL) (by decide) m31a (by kernel_rfl) (by kernel_rfl)) (runC_ok mixed (hO0 hL) (by decide) m31b (by kernel_rfl) (by kernel_rfl))
  · exact libL_ok hL p hp
theorem libM2_ok (hL : LibOk W) : ∀ p ∈ libM2, OraOk Tryz.prog (wx Tryz.prog W) p.1 p.2 := by
  intro p hp
  rcases List.mem_cons.1 hp with rfl | hp
  · exact runC_ok mixed (hO0 hL) (by decide) m29c (by kernel_rfl) (by kernel_rfl)
  rcases List.mem_cons.1 hp with rfl | hp
  · exact orO_ok (runC_ok mixed (hO0 hL) (by decide) m31c (by kernel_rfl) (by kernel_rfl)) (runC_ok mixed (hO0 hL) (by decide) m31b (by kernel_rfl) (by kernel_rfl))
  · exact libL_ok hL p hp
end Go.Tame.V
