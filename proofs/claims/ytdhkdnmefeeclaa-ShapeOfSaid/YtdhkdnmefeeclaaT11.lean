/- The problem of any small model has its numbers, and one place more for each row that is not an equation, and a model that may not be has none: the law ShapeOf is true of every input, and leaves it as it was; no conditions. -/
import Derived.WalkKit
import Derived.ProofKit
import Derived.OpenShut
import Derived.ShutString
import Derived.ChangeOld
import Derived.Below
import Derived.Test.YtdhkdnmefeeclaaK0
import Derived.Test.YtdhkdnmefeeclaaY0
import Derived.Test.YtdhkdnmefeeclaaY5
set_option linter.unusedSimpArgs false
set_option linter.unusedVariables false
set_option linter.unnecessarySimpa false
set_option linter.unusedVariables false
set_option maxRecDepth 100000
set_option maxHeartbeats 4000000
namespace Go.Proofs.Ytdhkdnmefeeclaa
open Go Go.Am Go.Proofs Go.RowKit Go.Off
open Go.ChangeShapes Go.WideShapes Go.ChangeAt
open Go.ChangeMaps (open_string shut_string)

set_option maxRecDepth 100000 in
theorem shapeOf_lifted (os : Os) (started : os.Started) (H : Type) (enc : TypeId × Value → H) :
    ReturnsInHanded {} Try.checked os 15 .any (Rows.shapeOfSpec.pre6 enc Try.prog Try.f15 Rows.shapeOfRow.domain false) (Rows.shapeOfSpec.post enc Try.prog Try.f15 false true false false) := by
  refine returnsInHanded_of_change (C := Try.checked) ownK started (by kernel_rfl) Try.func15
    (ChangeSpec.witness6 (enc := enc) (C := Try.checked) false ⟨#[], #[.agg #[.slice none 0 0, .slice none 0 0, .slice none 0 0]], []⟩ 8 (by kernel_rfl) (by kernel_rfl) (by kernel_rfl) (by kernel_rfl)) ?_
  intro W base args ds gs before hval0 hW hcnd _
  have hval : ∀ (j : Nat) t v, Try.f15.params[j]? = some t → args[j]? = some v → Value.okWide Try.prog W .any base t v := hval0
  have hW' := hW
  obtain ⟨p, q, hA0, hV, rfl, hfz, hnd⟩ := hW
  have hA : DataW.TrodAll enc Try.prog W 0 (fun _ => true) true Try.f15.params.toList args.toList ds p := hA0
  rw [Try.params15] at hA hval
  obtain ⟨v0, vs0, d0, ds0, p0, q0, hargs, rfl, rfl, h0, r0⟩ := trodAll_cons hA
  obtain ⟨rfl, rfl, rfl⟩ := trodAll_nil r0
  obtain rfl : args = #[v0] := by cases args; simp_all
  obtain ⟨rfl, rfl⟩ := trodVars_none hV
  obtain ⟨cs0, rfl⟩ : ∃ cs, v0 = .agg cs := by
    have h := hval 0 91 v0 rfl rfl
    unfold Value.okWide at h
    rw [Try.underlying91] at h
    exact h.imp fun cs hc => hc.1
  have lt0 : ∀ x ∈ p0, x.block < W.heap.size := by obtain ⟨m, hm⟩ := h0; exact DataW.trod_lt m _ _ _ hm
  obtain ⟨y0, ⟨a0, e0⟩, w0⟩ := avr_agg rd_model h0
  subst e0
  clear hA0 hval0
  refine (law_calls (shapeOf_C a0) (.cons w0 .nil)).mono fun e W' ⟨he, bel⟩ => ?_
  subst he
  exact ⟨_, rfl, _, _, _, [], _, [], hW', trodAll_mk1 (shut_bool Try.underlying4 _), (trodAll_cons_mk (Below.trod laidK (by kernel_rfl) (of_decide_eq_true (by kernel_rfl)) h0 bel lt0) trodAll_mk0), rfl, bel.frame _, fun h => by cases h⟩

theorem shapeOf_k0 : Rows.shapeOfRow.wf (OpenSpec.ofChange Rows.shapeOfSpec) = true := by kernel_rfl
theorem shapeOf_k3 : Try.f15.params.all (Try.prog.readableRec ·) = true := by kernel_rfl
theorem shapeOf_k4 : namedTie Try.prog Rows.shapeOfRow.named Rows.shapeOfSpec.vars = true := by kernel_rfl
theorem shapeOf_k5 : (Rows.shapeOfRow.stops == []) = true := by kernel_rfl
theorem shapeOf_k7 : (Rows.shapeOfRow.knobs == []) = true := by kernel_rfl
theorem shapeOf_k9 : (Rows.shapeOfRow.inPlace == Try.prog.inPlace 15) = true := by kernel_rfl
theorem shapeOf_k10 : (Rows.shapeOfRow.unfollowed == Try.prog.unfollowed 15) = true := by kernel_rfl
theorem shapeOf_k11 : (Rows.shapeOfRow.recurses == Try.prog.recurses 15) = true := by kernel_rfl
theorem shapeOf_k12 : (Rows.shapeOfRow.named == Try.prog.varsNamed 15) = true := by kernel_rfl
theorem shapeOf_k13 : (Rows.shapeOfRow.maps == (Try.f15.params.toList ++ Rows.shapeOfSpec.plain.varTypes Try.prog).any (Try.prog.mapsRec ·)) = true := by kernel_rfl
theorem shapeOf_k14 : (Rows.shapeOfRow.ifaces == (Try.f15.params.toList ++ Rows.shapeOfSpec.plain.varTypes Try.prog).any (Try.prog.ifacesRec ·)) = true := by kernel_rfl
theorem shapeOf_k15 : (Rows.shapeOfRow.mapsOut == Try.prog.mapsAmong Try.f15.resultTypes.toList) = true := by kernel_rfl
theorem shapeOf_k16 : (Rows.shapeOfRow.loops == (Try.f15.params.toList ++ Rows.shapeOfSpec.plain.varTypes Try.prog).any (Try.prog.loopsFrom ·)) = true := by kernel_rfl
theorem shapeOf_k17 : (Rows.shapeOfRow.wideKeys == (Try.f15.params.toList ++ Rows.shapeOfSpec.plain.varTypes Try.prog ++ Try.f15.resultTypes.toList).any (Try.prog.wideKeysFrom ·)) = true := by kernel_rfl
theorem shapeOf_k18 : Rows.shapeOfSpec.vars.all (Try.prog.varReadable ·) = true := by kernel_rfl
theorem shapeOf_k19 : Try.f15.resultTypes.all (fun t => Try.prog.readableRec t && decide (t < Try.prog.types.size)) = true := by kernel_rfl
theorem shapeOf_k20 : (Rows.shapeOfRow.ifacesOut == Try.f15.resultTypes.toList.any (Try.prog.ifacesRec ·)) = true := by kernel_rfl
theorem shapeOf_k21 : (Rows.shapeOfRow.loopsOut == Try.f15.resultTypes.toList.any (Try.prog.loopsFrom ·)) = true := by kernel_rfl
theorem shapeOf_k22 : (Rows.shapeOfRow.plainKeys == Try.prog.plainKeys) = true := by rw [kp22]; rfl
theorem shapeOf_k23 : Rows.shapeOfRow.shortTexts.isNone = true := by kernel_rfl
theorem shapeOf_k26 : (Rows.shapeOfRow.lifted == Try.prog.liftsFinal) = true := by rw [kp26]; rfl
theorem shapeOf_k27 : (Try.prog.make == some Rows.shapeOfRow.make) = true := by rw [kp27]; rfl
theorem shapeOf_k28 : (Rows.shapeOfRow.kinds == (if Rows.shapeOfRow.domain.isEmpty then [] else Try.f15.params.toList.map fun t => match Try.prog.underlying t with | some (.int k) => some k | _ => none)) = true := by kernel_rfl
theorem shapeOf_k29 : (Rows.shapeOfRow.pinned == Rows.shapeOfRow.pinnedBy) = true := by kernel_rfl
theorem shapeOf_k30 : (Rows.shapeOfRow.veiled == (Try.f15.params.toList ++ Rows.shapeOfSpec.plain.varTypes Try.prog ++ Try.f15.resultTypes.toList).any (Try.prog.veiledRec ·)) = true := by kernel_rfl
theorem shapeOf_k31 : Rows.shapeOfRow.veiledFits Try.prog Try.f15.params.toList (Try.f15.params.toList ++ Rows.shapeOfSpec.plain.varTypes Try.prog ++ Try.f15.resultTypes.toList) = true := by kernel_rfl
theorem shapeOf_facts : joinedFacts Try.prog 15 Try.f15 Rows.shapeOfSpec Rows.shapeOfRow = true := (andK (andK (andK (andK (andK (andK (andK (andK (andK (andK (andK (andK (andK (andK (andK (andK (andK (andK (andK (andK (andK (andK (andK (andK (andK (andK (andK (andK (andK (andK (andK shapeOf_k0 kp1) kp2) shapeOf_k3) shapeOf_k4) shapeOf_k5) kp6) shapeOf_k7) kp8) shapeOf_k9) shapeOf_k10) shapeOf_k11) shapeOf_k12) shapeOf_k13) shapeOf_k14) shapeOf_k15) shapeOf_k16) shapeOf_k17) shapeOf_k18) shapeOf_k19) shapeOf_k20) shapeOf_k21) shapeOf_k22) shapeOf_k23) kp24) kp25) shapeOf_k26) shapeOf_k27) shapeOf_k28) shapeOf_k29) shapeOf_k30) shapeOf_k31)
theorem shapeOf_n1 : Try.prog.funcNamed Rows.shapeOfRow.func = some 15 := by kernel_rfl
theorem shapeOf_n3 : Try.f15.isInstance Try.prog Rows.shapeOfRow.origin Rows.shapeOfRow.targs := of_decide_eq_true (by kernel_rfl)
theorem shapeOf_n4 : Try.f15.isWrapper Try.prog Rows.shapeOfRow.wrapper Rows.shapeOfRow.mainSum := by unfold Func.isWrapper; first | (rw [if_pos (by decide +kernel)]; kernel_rfl) | (rw [if_neg (by decide +kernel)]; exact ⟨rfl, rfl⟩)
theorem shapeOf_holds : Rows.ShapeOfSaid :=
  OpenClaim.holds_of_wide 15 Try.f15 rfl rfl rfl rfl rfl rfl rfl ⟨rfl, rfl, rfl, rfl, rfl⟩ rfl rfl rfl rfl rfl shapeOf_n1 Try.func15 shapeOf_facts shapeOf_n3 shapeOf_n4
    (fun os started H enc _ => shapeOf_lifted os started H enc)
#print axioms shapeOf_holds
end Go.Proofs.Ytdhkdnmefeeclaa
