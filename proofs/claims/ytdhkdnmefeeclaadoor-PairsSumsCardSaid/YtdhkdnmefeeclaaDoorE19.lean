/- What the laws of layer 19 are handed, as closed data. -/
import Derived.Test.YtdhkdnmefeeclaaDoorEA
import Derived.Test.YtdhkdnmefeeclaaDoorMR
set_option linter.unusedSimpArgs false
set_option linter.unusedVariables false
set_option linter.unnecessarySimpa false
set_option linter.unusedSimpArgs false
set_option linter.unusedVariables false
set_option maxRecDepth 100000
set_option maxHeartbeats 4000000
namespace Go.Proofs.YtdhkdnmefeeclaaDoor
open Go Go.Am Go.Proofs Go.RowKit Go.Off

theorem rd_part : Reads Tryd.prog 50 (fun l => ∃ p : Prt, (-9223372036854775808 ≤ p.set ∧ p.set ≤ 9223372036854775807) ∧ l = fPt p) := reads_mono (reads_struct2 (c0 := 1) (c1 := 3) Tryd.underlying50 rfl (by kernel_rfl) rfl (by kernel_rfl) (by kernel_rfl) rd_int rd_rat) (by
  rintro l ⟨l0, l1, ⟨a, ha, rfl⟩, ⟨r, _, rfl⟩, rfl⟩
  exact ⟨⟨a, r⟩, ha, rfl⟩)
theorem rd_parts : Reads Tryd.prog 22 (fun l => ∃ s : PL, (∀ p ∈ osl s, -9223372036854775808 ≤ p.set ∧ p.set ≤ 9223372036854775807) ∧ l = [encSl 4 fPt s]) := reads_mono (reads_slice (k := 4) Tryd.underlying22 (by kernel_rfl) (by decide) (fun a => rfl) (reads_mono rd_part (by
  rintro l ⟨n, hn, rfl⟩
  exact ⟨n, hn, rfl⟩))) (by
  rintro l ⟨s, hs, rfl⟩
  exact ⟨s, hs.1, rfl⟩)

end Go.Proofs.YtdhkdnmefeeclaaDoor
