/- Facts of the program that every statement's row asks. -/
import Derived.Test.YtdhkdnmefeeclaaDoorRows
import Derived.JoinedOf
import Derived.ProofKit
set_option linter.unusedSimpArgs false
set_option linter.unusedVariables false
set_option linter.unnecessarySimpa false
set_option linter.unusedVariables false
set_option maxRecDepth 100000
set_option maxRecDepth 100000
set_option maxHeartbeats 4000000
namespace Go.Proofs.YtdhkdnmefeeclaaDoor
open Go
theorem andK {a b : Bool} (h : a = true) (g : b = true) : (a && b) = true := by rw [h, g]; rfl
theorem ownK : ownKnob Tryd.prog.godebug = none := by kernel_rfl
theorem kp1 : laidOutB Tryd.prog = true := by kernel_rfl
theorem laidK : laidOutB Tryd.prog = true := kp1
theorem kp2 : mapsRowed Tryd.prog = true := by kernel_rfl
theorem kp6 : (Tryd.prog.stops == []) = true := by kernel_rfl
theorem kp8 : (Tryd.prog.stopKnobs == []) = true := by kernel_rfl
theorem kp24 : Tryd.prog.stopsHeard = true := by kernel_rfl
theorem kp25 : Tryd.prog.mayEnter = true := by kernel_rfl
theorem kp22 : Tryd.prog.plainKeys = true := by kernel_rfl
theorem kp26 : Tryd.prog.liftsFinal = false := by kernel_rfl
theorem kp27 : Tryd.prog.make = some .cut := by kernel_rfl
end Go.Proofs.YtdhkdnmefeeclaaDoor
