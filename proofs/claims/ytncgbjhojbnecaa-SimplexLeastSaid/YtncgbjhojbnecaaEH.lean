/- What an argument reads as: rows of ints. -/
import Derived.Test.YtncgbjhojbnecaaEF
import Derived.Test.YtncgbjhojbnecaaSH
import Derived.Test.YtncgbjhojbnecaaSI
set_option linter.unusedSimpArgs false
set_option linter.unusedVariables false
set_option linter.unnecessarySimpa false
set_option maxRecDepth 100000
set_option maxHeartbeats 4000000
namespace Go.Proofs.Ytncgbjhojbnecaa
open Go Go.Am Go.Proofs Go.RowKit Go.Off
def Int64s (s:Option (List Int)):Prop:=(osl s).length <= 9223372036854775807 /\ ∀ z ∈ osl s,-9223372036854775808 <= z /\ z <= 9223372036854775807
theorem rd_intss:Reads Try.prog 47 (fun l=>∃ m:IM,((osl m).length <= 9223372036854775807 /\ ∀ s ∈ osl m,Int64s s) /\ l = [encSl 1 fIs m]):=reads_mono (reads_slice (k:=1) Try.underlying47 (by kernel_rfl) (by decide) (fun a=>rfl) (reads_mono rd_ints (by
 rintro l ⟨s,hs,rfl⟩
 exact ⟨s,hs,rfl⟩))) (by
 rintro l ⟨s,hs,rfl⟩
 exact ⟨s,⟨by simpa [maxLen] using hs.2,hs.1⟩,rfl⟩)
end Go.Proofs.Ytncgbjhojbnecaa
