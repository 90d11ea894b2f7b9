/- The table that the program text lays; ints, as closed data. -/
import Derived.OpenShut
import Derived.LaidMore
import Derived.Lay
import Derived.MakeChecks
import Derived.Test.YtdhkdnmefeeclaaDoorK0
import Derived.Test.YtdhkdnmefeeclaaDoorUX
import Derived.Test.YtdhkdnmefeeclaaDoorVD
set_option linter.unusedSimpArgs false
set_option linter.unusedVariables false
set_option linter.unnecessarySimpa false
set_option linter.unusedSimpArgs false
set_option linter.unusedVariables false
set_option maxRecDepth 100000
set_option maxHeartbeats 4000000
namespace Go.Proofs.YtdhkdnmefeeclaaDoor
open Go Go.Am Go.Proofs Go.RowKit Go.Off

theorem rd_ints : Reads Tryd.prog 34 (fun l => ∃ s : WI, ((osl s).length ≤ 9223372036854775807 ∧ ∀ z ∈ osl s, -9223372036854775808 ≤ z ∧ z ≤ 9223372036854775807) ∧ l = [encSl 1 fI s]) := reads_mono (reads_slice (k := 1) Tryd.underlying34 (by kernel_rfl) (by decide) (fun a => rfl) (reads_mono rd_int (by
  rintro l ⟨n, hn, rfl⟩
  exact ⟨n, hn, rfl⟩))) (by
  rintro l ⟨s, hs, rfl⟩
  exact ⟨s, ⟨by simpa [maxLen] using hs.2, hs.1⟩, rfl⟩)
noncomputable def laidD : List (String × DataW Unit) := [("math/bits.deBruijn32tab", Rows.laid_math_bits_deBruijn32tab), ("math/bits.deBruijn64tab", Rows.laid_math_bits_deBruijn64tab)]
theorem laidD_plain (W : World) : laidMetH Tryd.prog laidD W = laidMet Tryd.prog laidD W := MakeChecks.laidMetH_plain _ _ _ (by kernel_rfl)
theorem globD : Tryd.prog.globalNamed "math/bits.deBruijn64tab" = some 1 := by kernel_rfl
theorem globDt : (Tryd.prog.globals[1]?).map (·.type) = some 151 := by kernel_rfl
theorem datD : (Rows.laid_math_bits_deBruijn64tab : DataW Unit) = .agg (tabI.map fun n => .lit (.int .u8 n)) := by kernel_rfl
theorem laidD_tab {W : World} (h : laidMetH Tryd.prog laidD W) : GB (fun _ => False) W.heap.size W := by
  rw [laidD_plain] at h
  obtain ⟨ps, ⟨_, _, _, _, _, _, _, _, _, _, ⟨g, t, cs, fuel, p, q, hg, ht, hv, hd, _, _⟩, _⟩, _, _⟩ := h
  obtain rfl := Option.some.inj (globD.symm.trans hg)
  obtain rfl := Option.some.inj (globDt.symm.trans ht)
  rw [datD] at hd
  obtain ⟨xs, m, _, ex, _, hl, hel⟩ := DataW.trod_array Tryd.underlying151 hd
  have c5 : Tryd.prog.cellsOf 5 = 1 := by kernel_rfl
  have e3 : (xs.map (·.1)) = tabI.map fun n => .lit (.int .u8 n) := (DataW.agg.inj (Prod.mk.inj ex).1).symm
  have hlen : tabI.length = 64 := rfl
  have cell : ∀ (j : Nat) (v : Value), tab64[j]? = some v → W.cell? ⟨1, j, none⟩ = some v := fun j v hj => by
    rw [tab64_eq, List.getElem?_map] at hj
    have hj64 : j < 64 := by
      rcases Nat.lt_or_ge j 64 with h | h
      · exact h
      · rw [List.getElem?_eq_none (by omega)] at hj; cases hj
    have hE := hel j hj64
    rw [c5, Nat.mul_one, List.getElem?_eq_getElem (by omega)] at hE
    obtain ⟨z, e1, e2, _⟩ := DataW.trod_int Tryd.underlying5 hE
    have e4 : (xs.map (·.1))[j]? = (tabI.map fun n => (DataW.lit (.int .u8 n) : DataW Unit))[j]? := by rw [e3]
    rw [List.getElem?_map, List.getElem?_map, List.getElem?_eq_getElem (by omega : j < xs.length), e2] at e4
    rw [List.getElem?_eq_getElem (by omega : j < tabI.length)] at e4 hj
    simp only [Option.map_some, Option.some.injEq, DataW.lit.injEq, Lit.int.injEq, true_and] at e4 hj
    rw [World.var?_cell hg hv j, ← hj, ← e4]
    have h0 : ((cs.toList.drop j).take 1)[0]? = some (.int .u8 z) := by rw [e1]; rfl
    simpa using h0
  intro g l hg
  by_cases h1 : g = 1
  · subst h1
    have hl2 : l = tab64 := by
      have : (some tab64 : Option (List Value)) = some l := hg
      exact (Option.some.inj this).symm
    subst hl2
    have hc0 := cell 0 _ rfl
    refine ⟨⟨?_, fun h => h.elim⟩, cell⟩
    rcases Nat.lt_or_ge 1 W.heap.size with h | h
    · exact h
    · unfold World.cell? at hc0
      rw [Array.getElem?_eq_none h] at hc0
      cases hc0
  · have : (if g = 1 then some tab64 else none : Option (List Value)) = some l := hg
    rw [if_neg h1] at this
    cases this
theorem witD (os : Os) (args : Array Value) : laidMetH Tryd.prog laidD ((World.laidAll Tryd.prog os laidD).forCall (fun _ _ => 0) ⟨#[], args, []⟩).memory := by
  rw [laidD_plain]; exact laidMet_laidAll _ (by kernel_rfl) (by kernel_rfl)

end Go.Proofs.YtdhkdnmefeeclaaDoor
