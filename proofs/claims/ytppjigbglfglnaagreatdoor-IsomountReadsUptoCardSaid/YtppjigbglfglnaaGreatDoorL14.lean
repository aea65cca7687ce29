/- A program logic of my own over the model, and contracts of this program's functions by it: part 14. No conditions of its own: each theorem states its own. -/
import Derived.Test.YtppjigbglfglnaaGreatDoorL13
set_option linter.unnecessarySimpa false
set_option linter.unusedSimpArgs false
set_option linter.unusedVariables false
set_option maxRecDepth 100000
set_option maxHeartbeats 16000000
namespace Go.Tame.V
open Go Go.Proofs Go.Ev
set_option maxRecDepth 100000
set_option maxHeartbeats 0
theorem hON {W : World} (hL : LibOk W) : ∀ f g,tabO libN f = some g → OraOk Tryz.prog (wx Tryz.prog W) f g:=tabO_ok (libN_ok hL)
theorem hOQ {W : World} (hL : LibOk W) : ∀ f g,tabO libQ f = some g → OraOk Tryz.prog (wx Tryz.prog W) f g:=tabO_ok (libQ_ok hL)
theorem Q29 {W : World} (hL : LibOk W) : DFun Tryz.prog W 4 [] (.bool true) :=
 dfun_of_rest (hasB Tryz.func4 rfl (by decide +kernel)) (rest_piece mixed (hOQ hL) h1 (rest_piece mixed (hON hL) h2 (rest_piece mixed (hON hL) h3 (rest_end mixed (hON hL) h4))))
end Go.Tame.V
