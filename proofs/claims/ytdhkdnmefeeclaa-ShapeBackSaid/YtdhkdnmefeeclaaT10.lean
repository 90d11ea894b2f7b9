/- What does for a model, with its slack, does for its problem, at the same cost, and back it is itself, and what does not has none: the law ShapeBack is true of every input, and leaves it as it was; no conditions. -/
import Derived.WalkKit
import Derived.ProofKit
import Derived.OpenShut
import Derived.ShutString
import Derived.ChangeOld
import Derived.Below
import Derived.Test.YtdhkdnmefeeclaaK0
import Derived.Test.YtdhkdnmefeeclaaY0
import Derived.Test.YtdhkdnmefeeclaaY4
set_option linter.unusedSimpArgs false
set_option linter.unusedVariables false
set_option linter.unnecessarySimpa false
set_option linter.unusedVariables false
set_option maxRecDepth 100000
set_option maxHeartbeats 4000000
namespace Go.Proofs.Ytdhkdnmefeeclaa
open Go Go.Am Go.Proofs Go.RowKit Go.Off
open Go.ChangeShapes Go.WideShapes Go.ChangeAt
open Go.ChangeMaps (open_string shut_string)

set_option maxRecDepth 100000 in
theorem shapeBack_lifted (os : Os) (started : os.Started) (H : Type) (enc : TypeId × Value → H) :
    ReturnsInHanded {} Try.checked os 19 .any (Rows.shapeBackSpec.pre6 enc Try.prog Try.f19 Rows.shapeBackRow.domain false) (Rows.shapeBackSpec.post enc Try.prog Try.f19 false true false false) := by
  refine returnsInHanded_of_change (C := Try.checked) ownK started (by kernel_rfl) Try.func19
    (ChangeSpec.witness6 (enc := enc) (C := Try.checked) false ⟨#[], #[.agg #[.slice none 0 0, .slice none 0 0, .slice none 0 0], .slice none 0 0], []⟩ 8 (by kernel_rfl) (by kernel_rfl) (by kernel_rfl) (by kernel_rfl)) ?_
  intro W base args ds gs before hval0 hW hcnd _
  have hval : ∀ (j : Nat) t v, Try.f19.params[j]? = some t → args[j]? = some v → Value.okWide Try.prog W .any base t v := hval0
  have hW' := hW
  obtain ⟨p, q, hA0, hV, rfl, hfz, hnd⟩ := hW
  have hA : DataW.TrodAll enc Try.prog W 0 (fun _ => true) true Try.f19.params.toList args.toList ds p := hA0
  rw [Try.params19] at hA hval
  obtain ⟨v0, vs0, d0, ds0, p0, q0, hargs, rfl, rfl, h0, r0⟩ := trodAll_cons hA
  obtain ⟨v1, vs1, d1, ds1, p1, q1, rfl, rfl, rfl, h1, r1⟩ := trodAll_cons r0
  obtain ⟨rfl, rfl, rfl⟩ := trodAll_nil r1
  obtain rfl : args = #[v0, v1] := by cases args; simp_all
  obtain ⟨rfl, rfl⟩ := trodVars_none hV
  obtain ⟨cs0, rfl⟩ : ∃ cs, v0 = .agg cs := by
    have h := hval 0 91 v0 rfl rfl
    unfold Value.okWide at h
    rw [Try.underlying91] at h
    exact h.imp fun cs hc => hc.1
  have lt0 : ∀ x ∈ p0, x.block < W.heap.size := by obtain ⟨m, hm⟩ := h0; exact DataW.trod_lt m _ _ _ hm
  obtain ⟨x1, l1, c1, rfl⟩ := okWide_slice Try.underlying22 (hval 1 22 v1 rfl rfl)
  have lt1 : ∀ x ∈ p1, x.block < W.heap.size := by obtain ⟨m, hm⟩ := h1; exact DataW.trod_lt m _ _ _ hm
  obtain ⟨y0, ⟨a0, e0⟩, w0⟩ := avr_agg rd_model h0
  obtain ⟨y1, ⟨a1, e1⟩, w1⟩ := avr_cell rd_vec h1 rfl
  subst e0
  cases e1
  clear hA0 hval0
  refine (law_calls (shapeBack_C a0 a1) (.cons w0 (.cons w1 .nil))).mono fun e W' ⟨he, bel⟩ => ?_
  subst he
  exact ⟨_, rfl, _, _, _, [], _, [], hW', trodAll_mk1 (shut_bool Try.underlying4 _), (trodAll_cons_mk (Below.trod laidK (by kernel_rfl) (of_decide_eq_true (by kernel_rfl)) h0 bel lt0) (trodAll_cons_mk (Below.trod laidK (by kernel_rfl) (of_decide_eq_true (by kernel_rfl)) h1 bel lt1) trodAll_mk0)), rfl, bel.frame _, fun h => by cases h⟩

theorem shapeBack_k0 : Rows.shapeBackRow.wf (OpenSpec.ofChange Rows.shapeBackSpec) = true := by kernel_rfl
theorem shapeBack_k3 : Try.f19.params.all (Try.prog.readableRec ·) = true := by kernel_rfl
theorem shapeBack_k4 : namedTie Try.prog Rows.shapeBackRow.named Rows.shapeBackSpec.vars = true := by kernel_rfl
theorem shapeBack_k5 : (Rows.shapeBackRow.stops == []) = true := by kernel_rfl
theorem shapeBack_k7 : (Rows.shapeBackRow.knobs == []) = true := by kernel_rfl
theorem shapeBack_k9 : (Rows.shapeBackRow.inPlace == Try.prog.inPlace 19) = true := by kernel_rfl
theorem shapeBack_k10 : (Rows.shapeBackRow.unfollowed == Try.prog.unfollowed 19) = true := by kernel_rfl
theorem shapeBack_k11 : (Rows.shapeBackRow.recurses == Try.prog.recurses 19) = true := by kernel_rfl
theorem shapeBack_k12 : (Rows.shapeBackRow.named == Try.prog.varsNamed 19) = true := by kernel_rfl
theorem shapeBack_k13 : (Rows.shapeBackRow.maps == (Try.f19.params.toList ++ Rows.shapeBackSpec.plain.varTypes Try.prog).any (Try.prog.mapsRec ·)) = true := by kernel_rfl
theorem shapeBack_k14 : (Rows.shapeBackRow.ifaces == (Try.f19.params.toList ++ Rows.shapeBackSpec.plain.varTypes Try.prog).any (Try.prog.ifacesRec ·)) = true := by kernel_rfl
theorem shapeBack_k15 : (Rows.shapeBackRow.mapsOut == Try.prog.mapsAmong Try.f19.resultTypes.toList) = true := by kernel_rfl
theorem shapeBack_k16 : (Rows.shapeBackRow.loops == (Try.f19.params.toList ++ Rows.shapeBackSpec.plain.varTypes Try.prog).any (Try.prog.loopsFrom ·)) = true := by kernel_rfl
theorem shapeBack_k17 : (Rows.shapeBackRow.wideKeys == (Try.f19.params.toList ++ Rows.shapeBackSpec.plain.varTypes Try.prog ++ Try.f19.resultTypes.toList).any (Try.prog.wideKeysFrom ·)) = true := by kernel_rfl
theorem shapeBack_k18 : Rows.shapeBackSpec.vars.all (Try.prog.varReadable ·) = true := by kernel_rfl
theorem shapeBack_k19 : Try.f19.resultTypes.all (fun t => Try.prog.readableRec t && decide (t < Try.prog.types.size)) = true := by kernel_rfl
theorem shapeBack_k20 : (Rows.shapeBackRow.ifacesOut == Try.f19.resultTypes.toList.any (Try.prog.ifacesRec ·)) = true := by kernel_rfl
theorem shapeBack_k21 : (Rows.shapeBackRow.loopsOut == Try.f19.resultTypes.toList.any (Try.prog.loopsFrom ·)) = true := by kernel_rfl
theorem shapeBack_k22 : (Rows.shapeBackRow.plainKeys == Try.prog.plainKeys) = true := by rw [kp22]; rfl
theorem shapeBack_k23 : Rows.shapeBackRow.shortTexts.isNone = true := by kernel_rfl
theorem shapeBack_k26 : (Rows.shapeBackRow.lifted == Try.prog.liftsFinal) = true := by rw [kp26]; rfl
theorem shapeBack_k27 : (Try.prog.make == some Rows.shapeBackRow.make) = true := by rw [kp27]; rfl
theorem shapeBack_k28 : (Rows.shapeBackRow.kinds == (if Rows.shapeBackRow.domain.isEmpty then [] else Try.f19.params.toList.map fun t => match Try.prog.underlying t with | some (.int k) => some k | _ => none)) = true := by kernel_rfl
theorem shapeBack_k29 : (Rows.shapeBackRow.pinned == Rows.shapeBackRow.pinnedBy) = true := by kernel_rfl
theorem shapeBack_k30 : (Rows.shapeBackRow.veiled == (Try.f19.params.toList ++ Rows.shapeBackSpec.plain.varTypes Try.prog ++ Try.f19.resultTypes.toList).any (Try.prog.veiledRec ·)) = true := by kernel_rfl
theorem shapeBack_k31 : Rows.shapeBackRow.veiledFits Try.prog Try.f19.params.toList (Try.f19.params.toList ++ Rows.shapeBackSpec.plain.varTypes Try.prog ++ Try.f19.resultTypes.toList) = true := by kernel_rfl
theorem shapeBack_facts : joinedFacts Try.prog 19 Try.f19 Rows.shapeBackSpec Rows.shapeBackRow = true := (andK (andK (andK (andK (andK (andK (andK (andK (andK (andK (andK (andK (andK (andK (andK (andK (andK (andK (andK (andK (andK (andK (andK (andK (andK (andK (andK (andK (andK (andK (andK shapeBack_k0 kp1) kp2) shapeBack_k3) shapeBack_k4) shapeBack_k5) kp6) shapeBack_k7) kp8) shapeBack_k9) shapeBack_k10) shapeBack_k11) shapeBack_k12) shapeBack_k13) shapeBack_k14) shapeBack_k15) shapeBack_k16) shapeBack_k17) shapeBack_k18) shapeBack_k19) shapeBack_k20) shapeBack_k21) shapeBack_k22) shapeBack_k23) kp24) kp25) shapeBack_k26) shapeBack_k27) shapeBack_k28) shapeBack_k29) shapeBack_k30) shapeBack_k31)
theorem shapeBack_n1 : Try.prog.funcNamed Rows.shapeBackRow.func = some 19 := by kernel_rfl
theorem shapeBack_n3 : Try.f19.isInstance Try.prog Rows.shapeBackRow.origin Rows.shapeBackRow.targs := of_decide_eq_true (by kernel_rfl)
theorem shapeBack_n4 : Try.f19.isWrapper Try.prog Rows.shapeBackRow.wrapper Rows.shapeBackRow.mainSum := by unfold Func.isWrapper; first | (rw [if_pos (by decide +kernel)]; kernel_rfl) | (rw [if_neg (by decide +kernel)]; exact ⟨rfl, rfl⟩)
theorem shapeBack_holds : Rows.ShapeBackSaid :=
  OpenClaim.holds_of_wide 19 Try.f19 rfl rfl rfl rfl rfl rfl rfl ⟨rfl, rfl, rfl, rfl, rfl⟩ rfl rfl rfl rfl rfl shapeBack_n1 Try.func19 shapeBack_facts shapeBack_n3 shapeBack_n4
    (fun os started H enc _ => shapeBack_lifted os started H enc)
#print axioms shapeBack_holds
end Go.Proofs.Ytdhkdnmefeeclaa
