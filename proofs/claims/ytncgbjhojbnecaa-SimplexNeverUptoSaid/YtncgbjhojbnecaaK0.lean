/- Facts of the program that every statement's row asks. -/
import Derived.Test.YtncgbjhojbnecaaRows
import Derived.JoinedOf
import Derived.ProofKit
set_option linter.unusedSimpArgs false
set_option linter.unusedVariables false
set_option linter.unnecessarySimpa false
set_option maxRecDepth 100000
set_option maxHeartbeats 4000000
namespace Go.Proofs.Ytncgbjhojbnecaa
open Go
theorem andK {a b:Bool} (h:a = true) (g:b = true):(a && b) = true:=by rw [h,g];rfl
theorem ownK:ownKnob Try.prog.godebug = none:=by kernel_rfl
theorem kp1:laidOutB Try.prog = true:=by kernel_rfl
theorem laidK:laidOutB Try.prog = true:=kp1
theorem kp2:mapsRowed Try.prog = true:=by kernel_rfl
theorem kp6:(Try.prog.stops == []) = true:=by kernel_rfl
theorem kp8:(Try.prog.stopKnobs == []) = true:=by kernel_rfl
theorem kp24:Try.prog.stopsHeard = true:=by kernel_rfl
theorem kp25:Try.prog.mayEnter = true:=by kernel_rfl
theorem kp22:Try.prog.plainKeys = true:=by kernel_rfl
theorem kp26:Try.prog.liftsFinal = false:=by kernel_rfl
theorem kp27:Try.prog.make = some .cut:=by kernel_rfl
end Go.Proofs.Ytncgbjhojbnecaa
