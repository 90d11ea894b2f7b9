/- The abstract memory: a struct of four fields as a law is handed it. -/
import Derived.Test.YtdhkdnmefeeclaaA5
import Derived.Test.YtdhkdnmefeeclaaV2
import Derived.Test.YtdhkdnmefeeclaaX2
set_option linter.unusedSimpArgs false
set_option linter.unusedVariables false
set_option linter.unnecessarySimpa false
set_option linter.unusedSimpArgs false
set_option linter.unusedVariables false
namespace Go.Am
open Go.RowKit Go.Off Go.ChangeShapes Go.WideShapes

variable {P : Program} {t : TypeId}

theorem reads_struct4 {f0 f1 f2 f3 : Field} {R0 R1 R2 R3 : List CV → Prop} {c0 c1 c2 c3 : Nat} (ht : P.underlying t = some (.struct #[f0, f1, f2, f3])) (h0 : f0.offset = 0) (hc0 : P.cellsOf f0.type = c0) (h1 : f1.offset = c0) (hc1 : P.cellsOf f1.type = c1)
    (h2 : f2.offset = c0 + c1) (hc2 : P.cellsOf f2.type = c2) (h3 : f3.offset = c0 + c1 + c2) (hc3 : P.cellsOf f3.type = c3)
    (hc : P.cellsOf t = c0 + c1 + c2 + c3) (r0 : Reads P f0.type R0) (r1 : Reads P f1.type R1) (r2 : Reads P f2.type R2) (r3 : Reads P f3.type R3) :
    Reads P t (fun l => ∃ l0 l1 l2 l3, R0 l0 ∧ R1 l1 ∧ R2 l2 ∧ R3 l3 ∧ l = l0 ++ (l1 ++ (l2 ++ l3))) := fun H enc w fuel cs x h => by
  obtain ⟨xs, n, _, rfl, hl, hlen, hf⟩ := DataW.trod_struct ht h
  match xs, hlen with
  | [y0, y1, y2, y3], _ =>
    obtain ⟨l0, a0, p0⟩ := r0 H enc w n _ _ (by simpa using hf 0 f0 rfl)
    obtain ⟨l1, a1, p1⟩ := r1 H enc w n _ _ (by simpa using hf 1 f1 rfl)
    obtain ⟨l2, a2, p2⟩ := r2 H enc w n _ _ (by simpa using hf 2 f2 rfl)
    obtain ⟨l3, a3, p3⟩ := r3 H enc w n _ _ (by simpa using hf 3 f3 rfl)
    refine ⟨_, ⟨l0, l1, l2, l3, a0, a1, a2, a3, rfl⟩, ?_⟩
    have := p0.append (p1.append (p2.append p3))
    rw [h0, hc0, h1, hc1, h2, hc2, h3, hc3, List.drop_zero] at this
    have e3 : (cs.drop (c0 + c1 + c2)).take c3 = cs.drop (c0 + c1 + c2) := List.take_of_length_le (by rw [List.length_drop, hl, hc]; omega)
    have e2 : (cs.drop (c0 + c1)).take c2 ++ cs.drop (c0 + c1 + c2) = cs.drop (c0 + c1) := by
      have := List.take_append_drop c2 (cs.drop (c0 + c1))
      rwa [List.drop_drop] at this
    have e1 : (cs.drop c0).take c1 ++ cs.drop (c0 + c1) = cs.drop c0 := by
      have := List.take_append_drop c1 (cs.drop c0)
      rwa [List.drop_drop] at this
    rw [e3, e2, e1, List.take_append_drop] at this
    exact this

end Go.Am
set_option linter.unusedSimpArgs false
set_option linter.unusedVariables false
set_option maxRecDepth 100000
set_option maxHeartbeats 4000000
namespace Go.Proofs.Ytdhkdnmefeeclaa
open Go Go.Am Go.Proofs Go.RowKit Go.Off

theorem rd_str : Reads Try.prog 9 (fun l => ∃ s : Str, True ∧ l = fW s) := reads_mono (reads_string Try.underlying9) (by
  rintro l ⟨s, _, rfl⟩
  exact ⟨s, trivial, rfl⟩)
theorem rd_strs : Reads Try.prog 61 (fun l => ∃ s : Option (List Str), l = [encSl 1 fW s]) := reads_mono (reads_slice (k := 1) Try.underlying61 (by kernel_rfl) (by decide) (fun a => rfl) rd_str) (by
  rintro l ⟨s, _, rfl⟩
  exact ⟨s, rfl⟩)
theorem rd_row : Reads Try.prog 96 (fun l => ∃ r : RowM, True ∧ l = fRow r) := reads_mono (reads_struct4 (c0 := 1) (c1 := 1) (c2 := 1) (c3 := 3) Try.underlying96 rfl (by kernel_rfl) rfl (by kernel_rfl) rfl (by kernel_rfl) rfl (by kernel_rfl) (by kernel_rfl) rd_str rd_vec rd_int rd_rat) (by
  rintro l ⟨l0, l1, l2, l3, ⟨s, _, rfl⟩, ⟨c, rfl⟩, ⟨n, _, rfl⟩, ⟨b, _, rfl⟩, rfl⟩
  exact ⟨⟨s, c, n, b⟩, trivial, rfl⟩)
theorem rd_rows : Reads Try.prog 89 (fun l => ∃ s : Option (List RowM), l = [encSl 6 fRow s]) := reads_mono (reads_slice (k := 6) Try.underlying89 (by kernel_rfl) (by decide) (fun a => rfl) rd_row) (by
  rintro l ⟨s, _, rfl⟩
  exact ⟨s, rfl⟩)
def cMd (m : MD) : List CV := [encSl 1 fW m.vars, vr m.cost, encSl 6 fRow m.rows]
theorem rd_model : Reads Try.prog 91 (fun l => ∃ m : MD, l = cMd m) := reads_mono (reads_struct3 (c0 := 1) (c1 := 1) (c2 := 1) Try.underlying91 rfl (by kernel_rfl) rfl (by kernel_rfl) rfl (by kernel_rfl) (by kernel_rfl) rd_strs rd_vec rd_rows) (by
  rintro l ⟨l0, l1, l2, ⟨v, rfl⟩, ⟨c, rfl⟩, ⟨r, rfl⟩, rfl⟩
  exact ⟨⟨v, c, r⟩, rfl⟩)

end Go.Proofs.Ytdhkdnmefeeclaa
