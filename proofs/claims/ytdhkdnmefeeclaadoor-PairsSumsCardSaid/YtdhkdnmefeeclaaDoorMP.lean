/- A map of ints to bools that the call itself makes: which keys it has. -/
import Derived.Maps.Own
import Derived.Maps.OwnOps
import Derived.Maps.Views
import Derived.Test.YtdhkdnmefeeclaaDoorVD
set_option linter.unusedSimpArgs false
set_option linter.unusedVariables false
set_option linter.unnecessarySimpa false
set_option linter.unusedSimpArgs false
set_option linter.unusedVariables false
set_option maxRecDepth 100000
set_option maxHeartbeats 4000000
namespace Go.Proofs.YtdhkdnmefeeclaaDoor
open Go Go.Am Go.Proofs Go.RowKit Go.Off
open Go.Maps (Keyed int_keyed keyOf_int_mk IsMap)

theorem keyI : Keyed Tryd.prog 3 := int_keyed Tryd.underlying3
theorem zeroB (w : World) : (zeroValue 4).run Tryd.prog w = .ok (.bool false) w := by kernel_rfl
/-- Block b of w is a map of ints to bools that tells of L's members true, of all else false. -/
def Seen (w : World) (b : Nat) (L : List Int) : Prop := ∃ D : DataW Unit, w.ownsMap Tryd.prog 3 (plainElem Tryd.prog 4) b L.length D ∧ IsMap D ∧ ∀ z : Int, D.atKey (.int .i64 z) (.lit (.bool false)) = .lit (.bool (L.contains z))
theorem seen_made (w : World) : Seen (w.alloc (.map #[] 0)) w.heap.size [] := ⟨_, World.ownsMap_made w _ _ _, ⟨[], rfl⟩, fun z => rfl⟩
theorem seen_look {w : World} {b : Nat} {L : List Int} (h : Seen w b L) {z : Int} (hz : (Lit.int .i64 z).wf = true) : (Instr.lookup 66 (.map (some b)) (.int .i64 z) false).run Tryd.prog w = .ok (.bool (L.contains z)) w := by
  obtain ⟨D, h1, h2, h3⟩ := h
  obtain ⟨v, ps, hrun, hv⟩ := h1.lookup keyI Tryd.underlying66 (zeroB w) (plainElem_bool Tryd.underlying4 false) (keyOf_int_mk Tryd.underlying3 hz)
  rw [h3 z] at hv
  have : v = .bool (L.contains z) := by
    unfold plainElem at hv
    rw [Tryd.underlying4] at hv
    cases v <;> simp_all
  rw [this] at hrun
  exact hrun
theorem seen_put {w : World} {b : Nat} {L : List Int} (h : Seen w b L) (hl : L.length < 1000000) {z : Int} (hz : (Lit.int .i64 z).wf = true) :
    ∃ w', (Instr.mapUpdate 66 (.map (some b)) (.int .i64 z) (.bool true)).run Tryd.prog w = .ok () w' ∧ Seen w' b (z :: L) ∧ w.grownBy w' (some b) := by
  obtain ⟨D, h1, h2, h3⟩ := h
  obtain ⟨w', hrun, ho, hg⟩ := h1.update keyI Tryd.underlying66 (by unfold maxLen; omega) (keyOf_int_mk Tryd.underlying3 hz) (plainElem_bool Tryd.underlying4 true)
  refine ⟨w', hrun, ⟨_, ho, ?_, fun y => ?_⟩, hg⟩
  · obtain ⟨es, rfl⟩ := h2
    exact ⟨_, rfl⟩
  · by_cases hy : y = z
    · subst hy
      rw [Maps.atKey_put_same h2 (by trivial)]
      simp
    · rw [Maps.atKey_put_other (fun e => hy (by injection e)), h3 y]
      simp [hy]
theorem Seen.grown {w w' : World} {b : Nat} {L : List Int} (h : Seen w b L) {row : Option Nat} (hg : w.grownBy w' row) (hr : some b ≠ row) : Seen w' b L := by
  obtain ⟨D, h1, h2, h3⟩ := h
  exact ⟨D, h1.kept hg hr, h2, h3⟩
theorem Seen.lt {w : World} {b : Nat} {L : List Int} (h : Seen w b L) : b < w.heap.size := by
  obtain ⟨D, h1, _⟩ := h
  exact h1.lt
theorem Seen.below {w w' : World} {b : Nat} {L : List Int} (h : Seen w b L) (hb : Below w.heap.size w w') : Seen w' b L := by
  refine h.grown (row := none) ⟨hb.os, hb.tape, hb.output, hb.size, fun k hk _ => hb.block k hk⟩ (by simp)

end Go.Proofs.YtdhkdnmefeeclaaDoor
