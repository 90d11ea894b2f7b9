/- What, applied, is a row, is told just if the determinant is not 0, and is the answer of the document; applied it is that row: the law LinSolves is true of every input, and leaves it as it was; no conditions. -/
import Derived.WalkKit
import Derived.ProofKit
import Derived.OpenShut
import Derived.ShutString
import Derived.ChangeOld
import Derived.Below
import Derived.Test.YtdhkdnmefeeclaaK0
import Derived.Test.YtdhkdnmefeeclaaM3
import Derived.Test.YtdhkdnmefeeclaaS5
set_option linter.unusedSimpArgs false
set_option linter.unusedVariables false
set_option linter.unnecessarySimpa false
set_option linter.unusedVariables false
set_option maxRecDepth 100000
set_option maxHeartbeats 4000000
namespace Go.Proofs.Ytdhkdnmefeeclaa
open Go Go.Am Go.Proofs Go.RowKit Go.Off
open Go.ChangeShapes Go.WideShapes Go.ChangeAt
open Go.ChangeMaps (open_string shut_string)

set_option maxRecDepth 100000 in
theorem linSolves_lifted (os : Os) (started : os.Started) (H : Type) (enc : TypeId × Value → H) :
    ReturnsInHanded {} Try.checked os 12 .any (Rows.linSolvesSpec.pre6 enc Try.prog Try.f12 Rows.linSolvesRow.domain false) (Rows.linSolvesSpec.post enc Try.prog Try.f12 false true false false) := by
  refine returnsInHanded_of_change (C := Try.checked) ownK started (by kernel_rfl) Try.func12
    (ChangeSpec.witness6 (enc := enc) (C := Try.checked) false ⟨#[], #[.slice none 0 0, .slice none 0 0], []⟩ 8 (by kernel_rfl) (by kernel_rfl) (by kernel_rfl) (by kernel_rfl)) ?_
  intro W base args ds gs before hval0 hW hcnd _
  have hval : ∀ (j : Nat) t v, Try.f12.params[j]? = some t → args[j]? = some v → Value.okWide Try.prog W .any base t v := hval0
  have hW' := hW
  obtain ⟨p, q, hA0, hV, rfl, hfz, hnd⟩ := hW
  have hA : DataW.TrodAll enc Try.prog W 0 (fun _ => true) true Try.f12.params.toList args.toList ds p := hA0
  rw [Try.params12] at hA hval
  obtain ⟨v0, vs0, d0, ds0, p0, q0, hargs, rfl, rfl, h0, r0⟩ := trodAll_cons hA
  obtain ⟨v1, vs1, d1, ds1, p1, q1, rfl, rfl, rfl, h1, r1⟩ := trodAll_cons r0
  obtain ⟨rfl, rfl, rfl⟩ := trodAll_nil r1
  obtain rfl : args = #[v0, v1] := by cases args; simp_all
  obtain ⟨rfl, rfl⟩ := trodVars_none hV
  obtain ⟨x0, l0, c0, rfl⟩ := okWide_slice Try.underlying65 (hval 0 65 v0 rfl rfl)
  have lt0 : ∀ x ∈ p0, x.block < W.heap.size := by obtain ⟨m, hm⟩ := h0; exact DataW.trod_lt m _ _ _ hm
  obtain ⟨x1, l1, c1, rfl⟩ := okWide_slice Try.underlying22 (hval 1 22 v1 rfl rfl)
  have lt1 : ∀ x ∈ p1, x.block < W.heap.size := by obtain ⟨m, hm⟩ := h1; exact DataW.trod_lt m _ _ _ hm
  obtain ⟨y0, ⟨a0, b0, e0⟩, w0⟩ := avr_cell rd_mat h0 rfl
  obtain ⟨y1, ⟨a1, e1⟩, w1⟩ := avr_cell rd_vec h1 rfl
  cases e0
  cases e1
  clear hA0 hval0
  refine (law_calls (linSolves_C a0 a1 b0) (.cons w0 (.cons w1 .nil))).mono fun e W' ⟨he, bel⟩ => ?_
  subst he
  exact ⟨_, rfl, _, _, _, [], _, [], hW', trodAll_mk1 (shut_bool Try.underlying4 _), (trodAll_cons_mk (Below.trod laidK (by kernel_rfl) (of_decide_eq_true (by kernel_rfl)) h0 bel lt0) (trodAll_cons_mk (Below.trod laidK (by kernel_rfl) (of_decide_eq_true (by kernel_rfl)) h1 bel lt1) trodAll_mk0)), rfl, bel.frame _, fun h => by cases h⟩

theorem linSolves_k0 : Rows.linSolvesRow.wf (OpenSpec.ofChange Rows.linSolvesSpec) = true := by kernel_rfl
theorem linSolves_k3 : Try.f12.params.all (Try.prog.readableRec ·) = true := by kernel_rfl
theorem linSolves_k4 : namedTie Try.prog Rows.linSolvesRow.named Rows.linSolvesSpec.vars = true := by kernel_rfl
theorem linSolves_k5 : (Rows.linSolvesRow.stops == []) = true := by kernel_rfl
theorem linSolves_k7 : (Rows.linSolvesRow.knobs == []) = true := by kernel_rfl
theorem linSolves_k9 : (Rows.linSolvesRow.inPlace == Try.prog.inPlace 12) = true := by kernel_rfl
theorem linSolves_k10 : (Rows.linSolvesRow.unfollowed == Try.prog.unfollowed 12) = true := by kernel_rfl
theorem linSolves_k11 : (Rows.linSolvesRow.recurses == Try.prog.recurses 12) = true := by kernel_rfl
theorem linSolves_k12 : (Rows.linSolvesRow.named == Try.prog.varsNamed 12) = true := by kernel_rfl
theorem linSolves_k13 : (Rows.linSolvesRow.maps == (Try.f12.params.toList ++ Rows.linSolvesSpec.plain.varTypes Try.prog).any (Try.prog.mapsRec ·)) = true := by kernel_rfl
theorem linSolves_k14 : (Rows.linSolvesRow.ifaces == (Try.f12.params.toList ++ Rows.linSolvesSpec.plain.varTypes Try.prog).any (Try.prog.ifacesRec ·)) = true := by kernel_rfl
theorem linSolves_k15 : (Rows.linSolvesRow.mapsOut == Try.prog.mapsAmong Try.f12.resultTypes.toList) = true := by kernel_rfl
theorem linSolves_k16 : (Rows.linSolvesRow.loops == (Try.f12.params.toList ++ Rows.linSolvesSpec.plain.varTypes Try.prog).any (Try.prog.loopsFrom ·)) = true := by kernel_rfl
theorem linSolves_k17 : (Rows.linSolvesRow.wideKeys == (Try.f12.params.toList ++ Rows.linSolvesSpec.plain.varTypes Try.prog ++ Try.f12.resultTypes.toList).any (Try.prog.wideKeysFrom ·)) = true := by kernel_rfl
theorem linSolves_k18 : Rows.linSolvesSpec.vars.all (Try.prog.varReadable ·) = true := by kernel_rfl
theorem linSolves_k19 : Try.f12.resultTypes.all (fun t => Try.prog.readableRec t && decide (t < Try.prog.types.size)) = true := by kernel_rfl
theorem linSolves_k20 : (Rows.linSolvesRow.ifacesOut == Try.f12.resultTypes.toList.any (Try.prog.ifacesRec ·)) = true := by kernel_rfl
theorem linSolves_k21 : (Rows.linSolvesRow.loopsOut == Try.f12.resultTypes.toList.any (Try.prog.loopsFrom ·)) = true := by kernel_rfl
theorem linSolves_k22 : (Rows.linSolvesRow.plainKeys == Try.prog.plainKeys) = true := by rw [kp22]; rfl
theorem linSolves_k23 : Rows.linSolvesRow.shortTexts.isNone = true := by kernel_rfl
theorem linSolves_k26 : (Rows.linSolvesRow.lifted == Try.prog.liftsFinal) = true := by rw [kp26]; rfl
theorem linSolves_k27 : (Try.prog.make == some Rows.linSolvesRow.make) = true := by rw [kp27]; rfl
theorem linSolves_k28 : (Rows.linSolvesRow.kinds == (if Rows.linSolvesRow.domain.isEmpty then [] else Try.f12.params.toList.map fun t => match Try.prog.underlying t with | some (.int k) => some k | _ => none)) = true := by kernel_rfl
theorem linSolves_k29 : (Rows.linSolvesRow.pinned == Rows.linSolvesRow.pinnedBy) = true := by kernel_rfl
theorem linSolves_k30 : (Rows.linSolvesRow.veiled == (Try.f12.params.toList ++ Rows.linSolvesSpec.plain.varTypes Try.prog ++ Try.f12.resultTypes.toList).any (Try.prog.veiledRec ·)) = true := by kernel_rfl
theorem linSolves_k31 : Rows.linSolvesRow.veiledFits Try.prog Try.f12.params.toList (Try.f12.params.toList ++ Rows.linSolvesSpec.plain.varTypes Try.prog ++ Try.f12.resultTypes.toList) = true := by kernel_rfl
theorem linSolves_facts : joinedFacts Try.prog 12 Try.f12 Rows.linSolvesSpec Rows.linSolvesRow = true := (andK (andK (andK (andK (andK (andK (andK (andK (andK (andK (andK (andK (andK (andK (andK (andK (andK (andK (andK (andK (andK (andK (andK (andK (andK (andK (andK (andK (andK (andK (andK linSolves_k0 kp1) kp2) linSolves_k3) linSolves_k4) linSolves_k5) kp6) linSolves_k7) kp8) linSolves_k9) linSolves_k10) linSolves_k11) linSolves_k12) linSolves_k13) linSolves_k14) linSolves_k15) linSolves_k16) linSolves_k17) linSolves_k18) linSolves_k19) linSolves_k20) linSolves_k21) linSolves_k22) linSolves_k23) kp24) kp25) linSolves_k26) linSolves_k27) linSolves_k28) linSolves_k29) linSolves_k30) linSolves_k31)
theorem linSolves_n1 : Try.prog.funcNamed Rows.linSolvesRow.func = some 12 := by kernel_rfl
theorem linSolves_n3 : Try.f12.isInstance Try.prog Rows.linSolvesRow.origin Rows.linSolvesRow.targs := of_decide_eq_true (by kernel_rfl)
theorem linSolves_n4 : Try.f12.isWrapper Try.prog Rows.linSolvesRow.wrapper Rows.linSolvesRow.mainSum := by unfold Func.isWrapper; first | (rw [if_pos (by decide +kernel)]; kernel_rfl) | (rw [if_neg (by decide +kernel)]; exact ⟨rfl, rfl⟩)
theorem linSolves_holds : Rows.LinSolvesSaid :=
  OpenClaim.holds_of_wide 12 Try.f12 rfl rfl rfl rfl rfl rfl rfl ⟨rfl, rfl, rfl, rfl, rfl⟩ rfl rfl rfl rfl rfl linSolves_n1 Try.func12 linSolves_facts linSolves_n3 linSolves_n4
    (fun os started H enc _ => linSolves_lifted os started H enc)
#print axioms linSolves_holds
end Go.Proofs.Ytdhkdnmefeeclaa
