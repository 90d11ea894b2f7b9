/- What an argument reads as: a row of ints. -/
import Derived.Test.YtncgbjhojbnecaaMB
set_option linter.unusedSimpArgs false
set_option linter.unusedVariables false
set_option linter.unnecessarySimpa false
set_option maxRecDepth 100000
set_option maxHeartbeats 4000000
namespace Go.Proofs.Ytncgbjhojbnecaa
open Go Go.Am Go.Proofs Go.RowKit Go.Off
theorem rd_ints:Reads Try.prog 28 (fun l=>∃ s:Option (List Int),((osl s).length <= 9223372036854775807 /\ ∀ z ∈ osl s,-9223372036854775808 <= z /\ z <= 9223372036854775807) /\ l = [encSl 1 fI s]):=reads_mono (reads_slice (k:=1) Try.underlying28 (by kernel_rfl) (by decide) (fun a=>rfl) (reads_mono rd_int (by
 rintro l ⟨n,hn,rfl⟩
 exact ⟨n,hn,rfl⟩))) (by
 rintro l ⟨s,hs,rfl⟩
 exact ⟨s,⟨by simpa [maxLen] using hs.2,hs.1⟩,rfl⟩)
end Go.Proofs.Ytncgbjhojbnecaa
