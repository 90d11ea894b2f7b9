/- What the laws of layer 16 are handed, as closed data. -/
import Derived.Test.YtdhkdnmefeeclaaJA
import Derived.Test.YtdhkdnmefeeclaaVK
set_option linter.unusedSimpArgs false
set_option linter.unusedVariables false
set_option linter.unnecessarySimpa false
set_option linter.unusedSimpArgs false
set_option linter.unusedVariables false
set_option maxRecDepth 100000
set_option maxHeartbeats 4000000
namespace Go.Proofs.Ytdhkdnmefeeclaa
open Go Go.Am Go.Proofs Go.RowKit Go.Off

theorem rd_ints : Reads Try.prog 69 (fun l => ∃ s : Option (List Int), ((osl s).length ≤ 9223372036854775807 ∧ ∀ z ∈ osl s, -9223372036854775808 ≤ z ∧ z ≤ 9223372036854775807) ∧ l = [encSl 1 fI s]) := reads_mono (reads_slice (k := 1) Try.underlying69 (by kernel_rfl) (by decide) (fun a => rfl) (reads_mono rd_int (by
  rintro l ⟨n, hn, rfl⟩
  exact ⟨n, hn, rfl⟩))) (by
  rintro l ⟨s, hs, rfl⟩
  exact ⟨s, ⟨by simpa [maxLen] using hs.2, hs.1⟩, rfl⟩)
theorem rd_item : Reads Try.prog 121 (fun l => ∃ i : Itm, True ∧ l = fItm i) := reads_mono (reads_struct2 (c0 := 1) (c1 := 1) Try.underlying121 rfl (by kernel_rfl) rfl (by kernel_rfl) (by kernel_rfl) rd_int rd_int) (by
  rintro l ⟨l0, l1, ⟨a, _, rfl⟩, ⟨b, _, rfl⟩, rfl⟩
  exact ⟨⟨a, b⟩, trivial, rfl⟩)
theorem rd_items : Reads Try.prog 108 (fun l => ∃ s : Option (List Itm), l = [encSl 2 fItm s]) := reads_mono (reads_slice (k := 2) Try.underlying108 (by kernel_rfl) (by decide) (fun a => rfl) rd_item) (by
  rintro l ⟨s, _, rfl⟩
  exact ⟨s, rfl⟩)
def cSt (s : ST) : List CV := [.val (.int .i64 s.roll), encSl 2 fItm s.items]
theorem rd_stock : Reads Try.prog 110 (fun l => ∃ s : ST, (-9223372036854775808 ≤ s.roll ∧ s.roll ≤ 9223372036854775807) ∧ l = cSt s) := reads_mono (reads_struct2 (c0 := 1) (c1 := 1) Try.underlying110 rfl (by kernel_rfl) rfl (by kernel_rfl) (by kernel_rfl) rd_int rd_items) (by
  rintro l ⟨l0, l1, ⟨a, ha, rfl⟩, ⟨b, rfl⟩, rfl⟩
  exact ⟨⟨a, b⟩, ha, rfl⟩)

end Go.Proofs.Ytdhkdnmefeeclaa
