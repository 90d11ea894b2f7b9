/- Each row of a matrix is put together of the rows of its reduced form, by what stands at the places of the ones: the law LinSpans is true of every input, and leaves it as it was; no conditions. -/
import Derived.WalkKit
import Derived.ProofKit
import Derived.OpenShut
import Derived.ShutString
import Derived.ChangeOld
import Derived.Below
import Derived.Test.YtdhkdnmefeeclaaK0
import Derived.Test.YtdhkdnmefeeclaaM3
import Derived.Test.YtdhkdnmefeeclaaS2
set_option linter.unusedSimpArgs false
set_option linter.unusedVariables false
set_option linter.unnecessarySimpa false
set_option linter.unusedVariables false
set_option maxRecDepth 100000
set_option maxHeartbeats 4000000
namespace Go.Proofs.Ytdhkdnmefeeclaa
open Go Go.Am Go.Proofs Go.RowKit Go.Off
open Go.ChangeShapes Go.WideShapes Go.ChangeAt
open Go.ChangeMaps (open_string shut_string)

set_option maxRecDepth 100000 in
theorem linSpans_lifted (os : Os) (started : os.Started) (H : Type) (enc : TypeId × Value → H) :
    ReturnsInHanded {} Try.checked os 9 .any (Rows.linSpansSpec.pre6 enc Try.prog Try.f9 Rows.linSpansRow.domain false) (Rows.linSpansSpec.post enc Try.prog Try.f9 false true false false) := by
  refine returnsInHanded_of_change (C := Try.checked) ownK started (by kernel_rfl) Try.func9
    (ChangeSpec.witness6 (enc := enc) (C := Try.checked) false ⟨#[], #[.slice none 0 0], []⟩ 8 (by kernel_rfl) (by kernel_rfl) (by kernel_rfl) (by kernel_rfl)) ?_
  intro W base args ds gs before hval0 hW hcnd _
  have hval : ∀ (j : Nat) t v, Try.f9.params[j]? = some t → args[j]? = some v → Value.okWide Try.prog W .any base t v := hval0
  have hW' := hW
  obtain ⟨p, q, hA0, hV, rfl, hfz, hnd⟩ := hW
  have hA : DataW.TrodAll enc Try.prog W 0 (fun _ => true) true Try.f9.params.toList args.toList ds p := hA0
  rw [Try.params9] at hA hval
  obtain ⟨v0, vs0, d0, ds0, p0, q0, hargs, rfl, rfl, h0, r0⟩ := trodAll_cons hA
  obtain ⟨rfl, rfl, rfl⟩ := trodAll_nil r0
  obtain rfl : args = #[v0] := by cases args; simp_all
  obtain ⟨rfl, rfl⟩ := trodVars_none hV
  obtain ⟨x0, l0, c0, rfl⟩ := okWide_slice Try.underlying65 (hval 0 65 v0 rfl rfl)
  have lt0 : ∀ x ∈ p0, x.block < W.heap.size := by obtain ⟨m, hm⟩ := h0; exact DataW.trod_lt m _ _ _ hm
  obtain ⟨y0, ⟨a0, b0, e0⟩, w0⟩ := avr_cell rd_mat h0 rfl
  cases e0
  clear hA0 hval0
  refine (law_calls (linSpans_C a0 b0) (.cons w0 .nil)).mono fun e W' ⟨he, bel⟩ => ?_
  subst he
  exact ⟨_, rfl, _, _, _, [], _, [], hW', trodAll_mk1 (shut_bool Try.underlying4 _), (trodAll_cons_mk (Below.trod laidK (by kernel_rfl) (of_decide_eq_true (by kernel_rfl)) h0 bel lt0) trodAll_mk0), rfl, bel.frame _, fun h => by cases h⟩

theorem linSpans_k0 : Rows.linSpansRow.wf (OpenSpec.ofChange Rows.linSpansSpec) = true := by kernel_rfl
theorem linSpans_k3 : Try.f9.params.all (Try.prog.readableRec ·) = true := by kernel_rfl
theorem linSpans_k4 : namedTie Try.prog Rows.linSpansRow.named Rows.linSpansSpec.vars = true := by kernel_rfl
theorem linSpans_k5 : (Rows.linSpansRow.stops == []) = true := by kernel_rfl
theorem linSpans_k7 : (Rows.linSpansRow.knobs == []) = true := by kernel_rfl
theorem linSpans_k9 : (Rows.linSpansRow.inPlace == Try.prog.inPlace 9) = true := by kernel_rfl
theorem linSpans_k10 : (Rows.linSpansRow.unfollowed == Try.prog.unfollowed 9) = true := by kernel_rfl
theorem linSpans_k11 : (Rows.linSpansRow.recurses == Try.prog.recurses 9) = true := by kernel_rfl
theorem linSpans_k12 : (Rows.linSpansRow.named == Try.prog.varsNamed 9) = true := by kernel_rfl
theorem linSpans_k13 : (Rows.linSpansRow.maps == (Try.f9.params.toList ++ Rows.linSpansSpec.plain.varTypes Try.prog).any (Try.prog.mapsRec ·)) = true := by kernel_rfl
theorem linSpans_k14 : (Rows.linSpansRow.ifaces == (Try.f9.params.toList ++ Rows.linSpansSpec.plain.varTypes Try.prog).any (Try.prog.ifacesRec ·)) = true := by kernel_rfl
theorem linSpans_k15 : (Rows.linSpansRow.mapsOut == Try.prog.mapsAmong Try.f9.resultTypes.toList) = true := by kernel_rfl
theorem linSpans_k16 : (Rows.linSpansRow.loops == (Try.f9.params.toList ++ Rows.linSpansSpec.plain.varTypes Try.prog).any (Try.prog.loopsFrom ·)) = true := by kernel_rfl
theorem linSpans_k17 : (Rows.linSpansRow.wideKeys == (Try.f9.params.toList ++ Rows.linSpansSpec.plain.varTypes Try.prog ++ Try.f9.resultTypes.toList).any (Try.prog.wideKeysFrom ·)) = true := by kernel_rfl
theorem linSpans_k18 : Rows.linSpansSpec.vars.all (Try.prog.varReadable ·) = true := by kernel_rfl
theorem linSpans_k19 : Try.f9.resultTypes.all (fun t => Try.prog.readableRec t && decide (t < Try.prog.types.size)) = true := by kernel_rfl
theorem linSpans_k20 : (Rows.linSpansRow.ifacesOut == Try.f9.resultTypes.toList.any (Try.prog.ifacesRec ·)) = true := by kernel_rfl
theorem linSpans_k21 : (Rows.linSpansRow.loopsOut == Try.f9.resultTypes.toList.any (Try.prog.loopsFrom ·)) = true := by kernel_rfl
theorem linSpans_k22 : (Rows.linSpansRow.plainKeys == Try.prog.plainKeys) = true := by rw [kp22]; rfl
theorem linSpans_k23 : Rows.linSpansRow.shortTexts.isNone = true := by kernel_rfl
theorem linSpans_k26 : (Rows.linSpansRow.lifted == Try.prog.liftsFinal) = true := by rw [kp26]; rfl
theorem linSpans_k27 : (Try.prog.make == some Rows.linSpansRow.make) = true := by rw [kp27]; rfl
theorem linSpans_k28 : (Rows.linSpansRow.kinds == (if Rows.linSpansRow.domain.isEmpty then [] else Try.f9.params.toList.map fun t => match Try.prog.underlying t with | some (.int k) => some k | _ => none)) = true := by kernel_rfl
theorem linSpans_k29 : (Rows.linSpansRow.pinned == Rows.linSpansRow.pinnedBy) = true := by kernel_rfl
theorem linSpans_k30 : (Rows.linSpansRow.veiled == (Try.f9.params.toList ++ Rows.linSpansSpec.plain.varTypes Try.prog ++ Try.f9.resultTypes.toList).any (Try.prog.veiledRec ·)) = true := by kernel_rfl
theorem linSpans_k31 : Rows.linSpansRow.veiledFits Try.prog Try.f9.params.toList (Try.f9.params.toList ++ Rows.linSpansSpec.plain.varTypes Try.prog ++ Try.f9.resultTypes.toList) = true := by kernel_rfl
theorem linSpans_facts : joinedFacts Try.prog 9 Try.f9 Rows.linSpansSpec Rows.linSpansRow = true := (andK (andK (andK (andK (andK (andK (andK (andK (andK (andK (andK (andK (andK (andK (andK (andK (andK (andK (andK (andK (andK (andK (andK (andK (andK (andK (andK (andK (andK (andK (andK linSpans_k0 kp1) kp2) linSpans_k3) linSpans_k4) linSpans_k5) kp6) linSpans_k7) kp8) linSpans_k9) linSpans_k10) linSpans_k11) linSpans_k12) linSpans_k13) linSpans_k14) linSpans_k15) linSpans_k16) linSpans_k17) linSpans_k18) linSpans_k19) linSpans_k20) linSpans_k21) linSpans_k22) linSpans_k23) kp24) kp25) linSpans_k26) linSpans_k27) linSpans_k28) linSpans_k29) linSpans_k30) linSpans_k31)
theorem linSpans_n1 : Try.prog.funcNamed Rows.linSpansRow.func = some 9 := by kernel_rfl
theorem linSpans_n3 : Try.f9.isInstance Try.prog Rows.linSpansRow.origin Rows.linSpansRow.targs := of_decide_eq_true (by kernel_rfl)
theorem linSpans_n4 : Try.f9.isWrapper Try.prog Rows.linSpansRow.wrapper Rows.linSpansRow.mainSum := by unfold Func.isWrapper; first | (rw [if_pos (by decide +kernel)]; kernel_rfl) | (rw [if_neg (by decide +kernel)]; exact ⟨rfl, rfl⟩)
theorem linSpans_holds : Rows.LinSpansSaid :=
  OpenClaim.holds_of_wide 9 Try.f9 rfl rfl rfl rfl rfl rfl rfl ⟨rfl, rfl, rfl, rfl, rfl⟩ rfl rfl rfl rfl rfl linSpans_n1 Try.func9 linSpans_facts linSpans_n3 linSpans_n4
    (fun os started H enc _ => linSpans_lifted os started H enc)
#print axioms linSpans_holds
end Go.Proofs.Ytdhkdnmefeeclaa
