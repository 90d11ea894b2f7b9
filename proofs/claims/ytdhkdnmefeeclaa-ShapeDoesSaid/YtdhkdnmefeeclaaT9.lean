/- What does for a problem of a model does, back, for the model, at the same cost, and fewer numbers than there are variables are none: the law ShapeDoes is true of every input, and leaves it as it was; no conditions. -/
import Derived.WalkKit
import Derived.ProofKit
import Derived.OpenShut
import Derived.ShutString
import Derived.ChangeOld
import Derived.Below
import Derived.Test.YtdhkdnmefeeclaaK0
import Derived.Test.YtdhkdnmefeeclaaY0
import Derived.Test.YtdhkdnmefeeclaaY2
set_option linter.unusedSimpArgs false
set_option linter.unusedVariables false
set_option linter.unnecessarySimpa false
set_option linter.unusedVariables false
set_option maxRecDepth 100000
set_option maxHeartbeats 4000000
namespace Go.Proofs.Ytdhkdnmefeeclaa
open Go Go.Am Go.Proofs Go.RowKit Go.Off
open Go.ChangeShapes Go.WideShapes Go.ChangeAt
open Go.ChangeMaps (open_string shut_string)

set_option maxRecDepth 100000 in
theorem shapeDoes_lifted (os : Os) (started : os.Started) (H : Type) (enc : TypeId × Value → H) :
    ReturnsInHanded {} Try.checked os 16 .any (Rows.shapeDoesSpec.pre6 enc Try.prog Try.f16 Rows.shapeDoesRow.domain false) (Rows.shapeDoesSpec.post enc Try.prog Try.f16 false true false false) := by
  refine returnsInHanded_of_change (C := Try.checked) ownK started (by kernel_rfl) Try.func16
    (ChangeSpec.witness6 (enc := enc) (C := Try.checked) false ⟨#[], #[.agg #[.slice none 0 0, .slice none 0 0, .slice none 0 0], .slice none 0 0], []⟩ 8 (by kernel_rfl) (by kernel_rfl) (by kernel_rfl) (by kernel_rfl)) ?_
  intro W base args ds gs before hval0 hW hcnd _
  have hval : ∀ (j : Nat) t v, Try.f16.params[j]? = some t → args[j]? = some v → Value.okWide Try.prog W .any base t v := hval0
  have hW' := hW
  obtain ⟨p, q, hA0, hV, rfl, hfz, hnd⟩ := hW
  have hA : DataW.TrodAll enc Try.prog W 0 (fun _ => true) true Try.f16.params.toList args.toList ds p := hA0
  rw [Try.params16] at hA hval
  obtain ⟨v0, vs0, d0, ds0, p0, q0, hargs, rfl, rfl, h0, r0⟩ := trodAll_cons hA
  obtain ⟨v1, vs1, d1, ds1, p1, q1, rfl, rfl, rfl, h1, r1⟩ := trodAll_cons r0
  obtain ⟨rfl, rfl, rfl⟩ := trodAll_nil r1
  obtain rfl : args = #[v0, v1] := by cases args; simp_all
  obtain ⟨rfl, rfl⟩ := trodVars_none hV
  obtain ⟨cs0, rfl⟩ : ∃ cs, v0 = .agg cs := by
    have h := hval 0 91 v0 rfl rfl
    unfold Value.okWide at h
    rw [Try.underlying91] at h
    exact h.imp fun cs hc => hc.1
  have lt0 : ∀ x ∈ p0, x.block < W.heap.size := by obtain ⟨m, hm⟩ := h0; exact DataW.trod_lt m _ _ _ hm
  obtain ⟨x1, l1, c1, rfl⟩ := okWide_slice Try.underlying22 (hval 1 22 v1 rfl rfl)
  have lt1 : ∀ x ∈ p1, x.block < W.heap.size := by obtain ⟨m, hm⟩ := h1; exact DataW.trod_lt m _ _ _ hm
  obtain ⟨y0, ⟨a0, e0⟩, w0⟩ := avr_agg rd_model h0
  obtain ⟨y1, ⟨a1, e1⟩, w1⟩ := avr_cell rd_vec h1 rfl
  subst e0
  cases e1
  clear hA0 hval0
  refine (law_calls (shapeDoes_C a0 a1) (.cons w0 (.cons w1 .nil))).mono fun e W' ⟨he, bel⟩ => ?_
  subst he
  exact ⟨_, rfl, _, _, _, [], _, [], hW', trodAll_mk1 (shut_bool Try.underlying4 _), (trodAll_cons_mk (Below.trod laidK (by kernel_rfl) (of_decide_eq_true (by kernel_rfl)) h0 bel lt0) (trodAll_cons_mk (Below.trod laidK (by kernel_rfl) (of_decide_eq_true (by kernel_rfl)) h1 bel lt1) trodAll_mk0)), rfl, bel.frame _, fun h => by cases h⟩

theorem shapeDoes_k0 : Rows.shapeDoesRow.wf (OpenSpec.ofChange Rows.shapeDoesSpec) = true := by kernel_rfl
theorem shapeDoes_k3 : Try.f16.params.all (Try.prog.readableRec ·) = true := by kernel_rfl
theorem shapeDoes_k4 : namedTie Try.prog Rows.shapeDoesRow.named Rows.shapeDoesSpec.vars = true := by kernel_rfl
theorem shapeDoes_k5 : (Rows.shapeDoesRow.stops == []) = true := by kernel_rfl
theorem shapeDoes_k7 : (Rows.shapeDoesRow.knobs == []) = true := by kernel_rfl
theorem shapeDoes_k9 : (Rows.shapeDoesRow.inPlace == Try.prog.inPlace 16) = true := by kernel_rfl
theorem shapeDoes_k10 : (Rows.shapeDoesRow.unfollowed == Try.prog.unfollowed 16) = true := by kernel_rfl
theorem shapeDoes_k11 : (Rows.shapeDoesRow.recurses == Try.prog.recurses 16) = true := by kernel_rfl
theorem shapeDoes_k12 : (Rows.shapeDoesRow.named == Try.prog.varsNamed 16) = true := by kernel_rfl
theorem shapeDoes_k13 : (Rows.shapeDoesRow.maps == (Try.f16.params.toList ++ Rows.shapeDoesSpec.plain.varTypes Try.prog).any (Try.prog.mapsRec ·)) = true := by kernel_rfl
theorem shapeDoes_k14 : (Rows.shapeDoesRow.ifaces == (Try.f16.params.toList ++ Rows.shapeDoesSpec.plain.varTypes Try.prog).any (Try.prog.ifacesRec ·)) = true := by kernel_rfl
theorem shapeDoes_k15 : (Rows.shapeDoesRow.mapsOut == Try.prog.mapsAmong Try.f16.resultTypes.toList) = true := by kernel_rfl
theorem shapeDoes_k16 : (Rows.shapeDoesRow.loops == (Try.f16.params.toList ++ Rows.shapeDoesSpec.plain.varTypes Try.prog).any (Try.prog.loopsFrom ·)) = true := by kernel_rfl
theorem shapeDoes_k17 : (Rows.shapeDoesRow.wideKeys == (Try.f16.params.toList ++ Rows.shapeDoesSpec.plain.varTypes Try.prog ++ Try.f16.resultTypes.toList).any (Try.prog.wideKeysFrom ·)) = true := by kernel_rfl
theorem shapeDoes_k18 : Rows.shapeDoesSpec.vars.all (Try.prog.varReadable ·) = true := by kernel_rfl
theorem shapeDoes_k19 : Try.f16.resultTypes.all (fun t => Try.prog.readableRec t && decide (t < Try.prog.types.size)) = true := by kernel_rfl
theorem shapeDoes_k20 : (Rows.shapeDoesRow.ifacesOut == Try.f16.resultTypes.toList.any (Try.prog.ifacesRec ·)) = true := by kernel_rfl
theorem shapeDoes_k21 : (Rows.shapeDoesRow.loopsOut == Try.f16.resultTypes.toList.any (Try.prog.loopsFrom ·)) = true := by kernel_rfl
theorem shapeDoes_k22 : (Rows.shapeDoesRow.plainKeys == Try.prog.plainKeys) = true := by rw [kp22]; rfl
theorem shapeDoes_k23 : Rows.shapeDoesRow.shortTexts.isNone = true := by kernel_rfl
theorem shapeDoes_k26 : (Rows.shapeDoesRow.lifted == Try.prog.liftsFinal) = true := by rw [kp26]; rfl
theorem shapeDoes_k27 : (Try.prog.make == some Rows.shapeDoesRow.make) = true := by rw [kp27]; rfl
theorem shapeDoes_k28 : (Rows.shapeDoesRow.kinds == (if Rows.shapeDoesRow.domain.isEmpty then [] else Try.f16.params.toList.map fun t => match Try.prog.underlying t with | some (.int k) => some k | _ => none)) = true := by kernel_rfl
theorem shapeDoes_k29 : (Rows.shapeDoesRow.pinned == Rows.shapeDoesRow.pinnedBy) = true := by kernel_rfl
theorem shapeDoes_k30 : (Rows.shapeDoesRow.veiled == (Try.f16.params.toList ++ Rows.shapeDoesSpec.plain.varTypes Try.prog ++ Try.f16.resultTypes.toList).any (Try.prog.veiledRec ·)) = true := by kernel_rfl
theorem shapeDoes_k31 : Rows.shapeDoesRow.veiledFits Try.prog Try.f16.params.toList (Try.f16.params.toList ++ Rows.shapeDoesSpec.plain.varTypes Try.prog ++ Try.f16.resultTypes.toList) = true := by kernel_rfl
theorem shapeDoes_facts : joinedFacts Try.prog 16 Try.f16 Rows.shapeDoesSpec Rows.shapeDoesRow = true := (andK (andK (andK (andK (andK (andK (andK (andK (andK (andK (andK (andK (andK (andK (andK (andK (andK (andK (andK (andK (andK (andK (andK (andK (andK (andK (andK (andK (andK (andK (andK shapeDoes_k0 kp1) kp2) shapeDoes_k3) shapeDoes_k4) shapeDoes_k5) kp6) shapeDoes_k7) kp8) shapeDoes_k9) shapeDoes_k10) shapeDoes_k11) shapeDoes_k12) shapeDoes_k13) shapeDoes_k14) shapeDoes_k15) shapeDoes_k16) shapeDoes_k17) shapeDoes_k18) shapeDoes_k19) shapeDoes_k20) shapeDoes_k21) shapeDoes_k22) shapeDoes_k23) kp24) kp25) shapeDoes_k26) shapeDoes_k27) shapeDoes_k28) shapeDoes_k29) shapeDoes_k30) shapeDoes_k31)
theorem shapeDoes_n1 : Try.prog.funcNamed Rows.shapeDoesRow.func = some 16 := by kernel_rfl
theorem shapeDoes_n3 : Try.f16.isInstance Try.prog Rows.shapeDoesRow.origin Rows.shapeDoesRow.targs := of_decide_eq_true (by kernel_rfl)
theorem shapeDoes_n4 : Try.f16.isWrapper Try.prog Rows.shapeDoesRow.wrapper Rows.shapeDoesRow.mainSum := by unfold Func.isWrapper; first | (rw [if_pos (by decide +kernel)]; kernel_rfl) | (rw [if_neg (by decide +kernel)]; exact ⟨rfl, rfl⟩)
theorem shapeDoes_holds : Rows.ShapeDoesSaid :=
  OpenClaim.holds_of_wide 16 Try.f16 rfl rfl rfl rfl rfl rfl rfl ⟨rfl, rfl, rfl, rfl, rfl⟩ rfl rfl rfl rfl rfl shapeDoes_n1 Try.func16 shapeDoes_facts shapeDoes_n3 shapeDoes_n4
    (fun os started H enc _ => shapeDoes_lifted os started H enc)
#print axioms shapeDoes_holds
end Go.Proofs.Ytdhkdnmefeeclaa
