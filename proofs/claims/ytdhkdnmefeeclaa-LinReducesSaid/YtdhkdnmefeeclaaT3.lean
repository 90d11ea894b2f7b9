/- The reduced form of any matrix has ones further and further right, noughts above and below them, and rows of noughts last, and reduced again it is itself: the law LinReduces is true of every input, and leaves it as it was; no conditions. -/
import Derived.WalkKit
import Derived.ProofKit
import Derived.OpenShut
import Derived.ShutString
import Derived.ChangeOld
import Derived.Below
import Derived.Test.YtdhkdnmefeeclaaK0
import Derived.Test.YtdhkdnmefeeclaaM3
import Derived.Test.YtdhkdnmefeeclaaS3
set_option linter.unusedSimpArgs false
set_option linter.unusedVariables false
set_option linter.unnecessarySimpa false
set_option linter.unusedVariables false
set_option maxRecDepth 100000
set_option maxHeartbeats 4000000
namespace Go.Proofs.Ytdhkdnmefeeclaa
open Go Go.Am Go.Proofs Go.RowKit Go.Off
open Go.ChangeShapes Go.WideShapes Go.ChangeAt
open Go.ChangeMaps (open_string shut_string)

set_option maxRecDepth 100000 in
theorem linReduces_lifted (os : Os) (started : os.Started) (H : Type) (enc : TypeId × Value → H) :
    ReturnsInHanded {} Try.checked os 10 .any (Rows.linReducesSpec.pre6 enc Try.prog Try.f10 Rows.linReducesRow.domain false) (Rows.linReducesSpec.post enc Try.prog Try.f10 false true false false) := by
  refine returnsInHanded_of_change (C := Try.checked) ownK started (by kernel_rfl) Try.func10
    (ChangeSpec.witness6 (enc := enc) (C := Try.checked) false ⟨#[], #[.slice none 0 0], []⟩ 8 (by kernel_rfl) (by kernel_rfl) (by kernel_rfl) (by kernel_rfl)) ?_
  intro W base args ds gs before hval0 hW hcnd _
  have hval : ∀ (j : Nat) t v, Try.f10.params[j]? = some t → args[j]? = some v → Value.okWide Try.prog W .any base t v := hval0
  have hW' := hW
  obtain ⟨p, q, hA0, hV, rfl, hfz, hnd⟩ := hW
  have hA : DataW.TrodAll enc Try.prog W 0 (fun _ => true) true Try.f10.params.toList args.toList ds p := hA0
  rw [Try.params10] at hA hval
  obtain ⟨v0, vs0, d0, ds0, p0, q0, hargs, rfl, rfl, h0, r0⟩ := trodAll_cons hA
  obtain ⟨rfl, rfl, rfl⟩ := trodAll_nil r0
  obtain rfl : args = #[v0] := by cases args; simp_all
  obtain ⟨rfl, rfl⟩ := trodVars_none hV
  obtain ⟨x0, l0, c0, rfl⟩ := okWide_slice Try.underlying65 (hval 0 65 v0 rfl rfl)
  have lt0 : ∀ x ∈ p0, x.block < W.heap.size := by obtain ⟨m, hm⟩ := h0; exact DataW.trod_lt m _ _ _ hm
  obtain ⟨y0, ⟨a0, b0, e0⟩, w0⟩ := avr_cell rd_mat h0 rfl
  cases e0
  clear hA0 hval0
  refine (law_calls (linReduces_C a0 b0) (.cons w0 .nil)).mono fun e W' ⟨he, bel⟩ => ?_
  subst he
  exact ⟨_, rfl, _, _, _, [], _, [], hW', trodAll_mk1 (shut_bool Try.underlying4 _), (trodAll_cons_mk (Below.trod laidK (by kernel_rfl) (of_decide_eq_true (by kernel_rfl)) h0 bel lt0) trodAll_mk0), rfl, bel.frame _, fun h => by cases h⟩

theorem linReduces_k0 : Rows.linReducesRow.wf (OpenSpec.ofChange Rows.linReducesSpec) = true := by kernel_rfl
theorem linReduces_k3 : Try.f10.params.all (Try.prog.readableRec ·) = true := by kernel_rfl
theorem linReduces_k4 : namedTie Try.prog Rows.linReducesRow.named Rows.linReducesSpec.vars = true := by kernel_rfl
theorem linReduces_k5 : (Rows.linReducesRow.stops == []) = true := by kernel_rfl
theorem linReduces_k7 : (Rows.linReducesRow.knobs == []) = true := by kernel_rfl
theorem linReduces_k9 : (Rows.linReducesRow.inPlace == Try.prog.inPlace 10) = true := by kernel_rfl
theorem linReduces_k10 : (Rows.linReducesRow.unfollowed == Try.prog.unfollowed 10) = true := by kernel_rfl
theorem linReduces_k11 : (Rows.linReducesRow.recurses == Try.prog.recurses 10) = true := by kernel_rfl
theorem linReduces_k12 : (Rows.linReducesRow.named == Try.prog.varsNamed 10) = true := by kernel_rfl
theorem linReduces_k13 : (Rows.linReducesRow.maps == (Try.f10.params.toList ++ Rows.linReducesSpec.plain.varTypes Try.prog).any (Try.prog.mapsRec ·)) = true := by kernel_rfl
theorem linReduces_k14 : (Rows.linReducesRow.ifaces == (Try.f10.params.toList ++ Rows.linReducesSpec.plain.varTypes Try.prog).any (Try.prog.ifacesRec ·)) = true := by kernel_rfl
theorem linReduces_k15 : (Rows.linReducesRow.mapsOut == Try.prog.mapsAmong Try.f10.resultTypes.toList) = true := by kernel_rfl
theorem linReduces_k16 : (Rows.linReducesRow.loops == (Try.f10.params.toList ++ Rows.linReducesSpec.plain.varTypes Try.prog).any (Try.prog.loopsFrom ·)) = true := by kernel_rfl
theorem linReduces_k17 : (Rows.linReducesRow.wideKeys == (Try.f10.params.toList ++ Rows.linReducesSpec.plain.varTypes Try.prog ++ Try.f10.resultTypes.toList).any (Try.prog.wideKeysFrom ·)) = true := by kernel_rfl
theorem linReduces_k18 : Rows.linReducesSpec.vars.all (Try.prog.varReadable ·) = true := by kernel_rfl
theorem linReduces_k19 : Try.f10.resultTypes.all (fun t => Try.prog.readableRec t && decide (t < Try.prog.types.size)) = true := by kernel_rfl
theorem linReduces_k20 : (Rows.linReducesRow.ifacesOut == Try.f10.resultTypes.toList.any (Try.prog.ifacesRec ·)) = true := by kernel_rfl
theorem linReduces_k21 : (Rows.linReducesRow.loopsOut == Try.f10.resultTypes.toList.any (Try.prog.loopsFrom ·)) = true := by kernel_rfl
theorem linReduces_k22 : (Rows.linReducesRow.plainKeys == Try.prog.plainKeys) = true := by rw [kp22]; rfl
theorem linReduces_k23 : Rows.linReducesRow.shortTexts.isNone = true := by kernel_rfl
theorem linReduces_k26 : (Rows.linReducesRow.lifted == Try.prog.liftsFinal) = true := by rw [kp26]; rfl
theorem linReduces_k27 : (Try.prog.make == some Rows.linReducesRow.make) = true := by rw [kp27]; rfl
theorem linReduces_k28 : (Rows.linReducesRow.kinds == (if Rows.linReducesRow.domain.isEmpty then [] else Try.f10.params.toList.map fun t => match Try.prog.underlying t with | some (.int k) => some k | _ => none)) = true := by kernel_rfl
theorem linReduces_k29 : (Rows.linReducesRow.pinned == Rows.linReducesRow.pinnedBy) = true := by kernel_rfl
theorem linReduces_k30 : (Rows.linReducesRow.veiled == (Try.f10.params.toList ++ Rows.linReducesSpec.plain.varTypes Try.prog ++ Try.f10.resultTypes.toList).any (Try.prog.veiledRec ·)) = true := by kernel_rfl
theorem linReduces_k31 : Rows.linReducesRow.veiledFits Try.prog Try.f10.params.toList (Try.f10.params.toList ++ Rows.linReducesSpec.plain.varTypes Try.prog ++ Try.f10.resultTypes.toList) = true := by kernel_rfl
theorem linReduces_facts : joinedFacts Try.prog 10 Try.f10 Rows.linReducesSpec Rows.linReducesRow = true := (andK (andK (andK (andK (andK (andK (andK (andK (andK (andK (andK (andK (andK (andK (andK (andK (andK (andK (andK (andK (andK (andK (andK (andK (andK (andK (andK (andK (andK (andK (andK linReduces_k0 kp1) kp2) linReduces_k3) linReduces_k4) linReduces_k5) kp6) linReduces_k7) kp8) linReduces_k9) linReduces_k10) linReduces_k11) linReduces_k12) linReduces_k13) linReduces_k14) linReduces_k15) linReduces_k16) linReduces_k17) linReduces_k18) linReduces_k19) linReduces_k20) linReduces_k21) linReduces_k22) linReduces_k23) kp24) kp25) linReduces_k26) linReduces_k27) linReduces_k28) linReduces_k29) linReduces_k30) linReduces_k31)
theorem linReduces_n1 : Try.prog.funcNamed Rows.linReducesRow.func = some 10 := by kernel_rfl
theorem linReduces_n3 : Try.f10.isInstance Try.prog Rows.linReducesRow.origin Rows.linReducesRow.targs := of_decide_eq_true (by kernel_rfl)
theorem linReduces_n4 : Try.f10.isWrapper Try.prog Rows.linReducesRow.wrapper Rows.linReducesRow.mainSum := by unfold Func.isWrapper; first | (rw [if_pos (by decide +kernel)]; kernel_rfl) | (rw [if_neg (by decide +kernel)]; exact ⟨rfl, rfl⟩)
theorem linReduces_holds : Rows.LinReducesSaid :=
  OpenClaim.holds_of_wide 10 Try.f10 rfl rfl rfl rfl rfl rfl rfl ⟨rfl, rfl, rfl, rfl, rfl⟩ rfl rfl rfl rfl rfl linReduces_n1 Try.func10 linReduces_facts linReduces_n3 linReduces_n4
    (fun os started H enc _ => linReduces_lifted os started H enc)
#print axioms linReduces_holds
end Go.Proofs.Ytdhkdnmefeeclaa
