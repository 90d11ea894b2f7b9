/- Costs twice as great have twice the least cost and the same verdict, and rows twice as great change neither: the law SimplexScales is true of every input, and leaves it as it was; no conditions. -/
import Derived.WalkKit
import Derived.ProofKit
import Derived.OpenShut
import Derived.ShutString
import Derived.ChangeOld
import Derived.Below
import Derived.Test.YtncgbjhojbnecaaK0
import Derived.Test.YtncgbjhojbnecaaMB
import Derived.Test.YtncgbjhojbnecaaSE
set_option linter.unusedSimpArgs false
set_option linter.unusedVariables false
set_option linter.unnecessarySimpa false
set_option linter.unusedVariables false
set_option maxRecDepth 100000
set_option maxHeartbeats 4000000
namespace Go.Proofs.Ytncgbjhojbnecaa
open Go Go.Am Go.Proofs Go.RowKit Go.Off
open Go.ChangeShapes Go.WideShapes Go.ChangeAt
open Go.ChangeMaps (open_string shut_string)
set_option maxRecDepth 100000 in
theorem simplexScales_lifted (os : Os) (started : os.Started) (H : Type) (enc : TypeId × Value -> H) :
  ReturnsInHanded {} Try.checked os 4 .any (Rows.simplexScalesSpec.pre6 enc Try.prog Try.f4 Rows.simplexScalesRow.domain false) (Rows.simplexScalesSpec.post enc Try.prog Try.f4 false true false false) := by
 refine returnsInHanded_of_change (C := Try.checked) ownK started (by kernel_rfl) Try.func4
  (ChangeSpec.witness6 (enc := enc) (C := Try.checked) false ⟨#[], #[.agg #[.slice none 0 0, .slice none 0 0, .slice none 0 0]], []⟩ 8 (by kernel_rfl) (by kernel_rfl) (by kernel_rfl) (by kernel_rfl)) ?_
 intro W base args ds gs before hval0 hW hcnd _
 have hval : ∀ (j : Nat) t v, Try.f4.params[j]? = some t -> args[j]? = some v -> Value.okWide Try.prog W .any base t v := hval0
 have hW' := hW
 obtain ⟨p, q, hA0, hV, rfl, hfz, hnd⟩ := hW
 have hA : DataW.TrodAll enc Try.prog W 0 (fun _ => true) true Try.f4.params.toList args.toList ds p := hA0
 rw [Try.params4] at hA hval
 obtain ⟨v0, vs0, d0, ds0, p0, q0, hargs, rfl, rfl, h0, r0⟩ := trodAll_cons hA
 obtain ⟨rfl, rfl, rfl⟩ := trodAll_nil r0
 obtain rfl : args = #[v0] := by cases args; simp_all
 obtain ⟨rfl, rfl⟩ := trodVars_none hV
 obtain ⟨cs0, rfl⟩ : ∃ cs, v0 = .agg cs := by
  have h := hval 0 25 v0 rfl rfl
  unfold Value.okWide at h
  rw [Try.underlying25] at h
  exact h.imp fun cs hc => hc.1
 have lt0 : ∀ x ∈ p0, x.block < W.heap.size := by obtain ⟨m, hm⟩ := h0; exact DataW.trod_lt m _ _ _ hm
 obtain ⟨y0, ⟨a0, e0⟩, w0⟩ := avr_agg rd_problem h0
 subst e0
 clear hA0 hval0
 refine (law_calls (simplexScales_C a0) (fun g l hl => by cases hl) (.cons w0 .nil)).mono fun e W' ⟨he, bel⟩ => ?_
 subst he
 exact ⟨_, rfl, _, _, _, [], _, [], hW', trodAll_mk1 (shut_bool Try.underlying4 _), (trodAll_cons_mk (Below.trod laidK (by kernel_rfl) (of_decide_eq_true (by kernel_rfl)) h0 bel lt0) trodAll_mk0), rfl, bel.frame _, fun h => by cases h⟩
theorem simplexScales_k0 : Rows.simplexScalesRow.wf (OpenSpec.ofChange Rows.simplexScalesSpec) = true := by kernel_rfl
theorem simplexScales_k3 : Try.f4.params.all (Try.prog.readableRec ·) = true := by kernel_rfl
theorem simplexScales_k4 : namedTie Try.prog Rows.simplexScalesRow.named Rows.simplexScalesSpec.vars = true := by kernel_rfl
theorem simplexScales_k5 : (Rows.simplexScalesRow.stops == []) = true := by kernel_rfl
theorem simplexScales_k7 : (Rows.simplexScalesRow.knobs == []) = true := by kernel_rfl
theorem simplexScales_k9 : (Rows.simplexScalesRow.inPlace == Try.prog.inPlace 4) = true := by kernel_rfl
theorem simplexScales_k10 : (Rows.simplexScalesRow.unfollowed == Try.prog.unfollowed 4) = true := by kernel_rfl
theorem simplexScales_k11 : (Rows.simplexScalesRow.recurses == Try.prog.recurses 4) = true := by kernel_rfl
theorem simplexScales_k12 : (Rows.simplexScalesRow.named == Try.prog.varsNamed 4) = true := by kernel_rfl
theorem simplexScales_k13 : (Rows.simplexScalesRow.maps == (Try.f4.params.toList ++ Rows.simplexScalesSpec.plain.varTypes Try.prog).any (Try.prog.mapsRec ·)) = true := by kernel_rfl
theorem simplexScales_k14 : (Rows.simplexScalesRow.ifaces == (Try.f4.params.toList ++ Rows.simplexScalesSpec.plain.varTypes Try.prog).any (Try.prog.ifacesRec ·)) = true := by kernel_rfl
theorem simplexScales_k15 : (Rows.simplexScalesRow.mapsOut == Try.prog.mapsAmong Try.f4.resultTypes.toList) = true := by kernel_rfl
theorem simplexScales_k16 : (Rows.simplexScalesRow.loops == (Try.f4.params.toList ++ Rows.simplexScalesSpec.plain.varTypes Try.prog).any (Try.prog.loopsFrom ·)) = true := by kernel_rfl
theorem simplexScales_k17 : (Rows.simplexScalesRow.wideKeys == (Try.f4.params.toList ++ Rows.simplexScalesSpec.plain.varTypes Try.prog ++ Try.f4.resultTypes.toList).any (Try.prog.wideKeysFrom ·)) = true := by kernel_rfl
theorem simplexScales_k18 : Rows.simplexScalesSpec.vars.all (Try.prog.varReadable ·) = true := by kernel_rfl
theorem simplexScales_k19 : Try.f4.resultTypes.all (fun t => Try.prog.readableRec t && decide (t < Try.prog.types.size)) = true := by kernel_rfl
theorem simplexScales_k20 : (Rows.simplexScalesRow.ifacesOut == Try.f4.resultTypes.toList.any (Try.prog.ifacesRec ·)) = true := by kernel_rfl
theorem simplexScales_k21 : (Rows.simplexScalesRow.loopsOut == Try.f4.resultTypes.toList.any (Try.prog.loopsFrom ·)) = true := by kernel_rfl
theorem simplexScales_k22 : (Rows.simplexScalesRow.plainKeys == Try.prog.plainKeys) = true := by rw [kp22]; rfl
theorem simplexScales_k23 : Rows.simplexScalesRow.shortTexts.isNone = true := by kernel_rfl
theorem simplexScales_k26 : (Rows.simplexScalesRow.lifted == Try.prog.liftsFinal) = true := by rw [kp26]; rfl
theorem simplexScales_k27 : (Try.prog.make == some Rows.simplexScalesRow.make) = true := by rw [kp27]; rfl
theorem simplexScales_k28 : (Rows.simplexScalesRow.kinds == (if Rows.simplexScalesRow.domain.isEmpty then [] else Try.f4.params.toList.map fun t => match Try.prog.underlying t with | some (.int k) => some k | _ => none)) = true := by kernel_rfl
theorem simplexScales_k29 : (Rows.simplexScalesRow.pinned == Rows.simplexScalesRow.pinnedBy) = true := by kernel_rfl
theorem simplexScales_k30 : (Rows.simplexScalesRow.veiled == (Try.f4.params.toList ++ Rows.simplexScalesSpec.plain.varTypes Try.prog ++ Try.f4.resultTypes.toList).any (Try.prog.veiledRec ·)) = true := by kernel_rfl
theorem simplexScales_k31 : Rows.simplexScalesRow.veiledFits Try.prog Try.f4.params.toList (Try.f4.params.toList ++ Rows.simplexScalesSpec.plain.varTypes Try.prog ++ Try.f4.resultTypes.toList) = true := by kernel_rfl
theorem simplexScales_facts : joinedFacts Try.prog 4 Try.f4 Rows.simplexScalesSpec Rows.simplexScalesRow = true := (andK (andK (andK (andK (andK (andK (andK (andK (andK (andK (andK (andK (andK (andK (andK (andK (andK (andK (andK (andK (andK (andK (andK (andK (andK (andK (andK (andK (andK (andK (andK simplexScales_k0 kp1) kp2) simplexScales_k3) simplexScales_k4) simplexScales_k5) kp6) simplexScales_k7) kp8) simplexScales_k9) simplexScales_k10) simplexScales_k11) simplexScales_k12) simplexScales_k13) simplexScales_k14) simplexScales_k15) simplexScales_k16) simplexScales_k17) simplexScales_k18) simplexScales_k19) simplexScales_k20) simplexScales_k21) simplexScales_k22) simplexScales_k23) kp24) kp25) simplexScales_k26) simplexScales_k27) simplexScales_k28) simplexScales_k29) simplexScales_k30) simplexScales_k31)
theorem simplexScales_n1 : Try.prog.funcNamed Rows.simplexScalesRow.func = some 4 := by kernel_rfl
theorem simplexScales_n3 : Try.f4.isInstance Try.prog Rows.simplexScalesRow.origin Rows.simplexScalesRow.targs := of_decide_eq_true (by kernel_rfl)
theorem simplexScales_n4 : Try.f4.isWrapper Try.prog Rows.simplexScalesRow.wrapper Rows.simplexScalesRow.mainSum := by unfold Func.isWrapper; first | (rw [if_pos (by decide +kernel)]; kernel_rfl) | (rw [if_neg (by decide +kernel)]; exact ⟨rfl, rfl⟩)
theorem simplexScales_holds : Rows.SimplexScalesSaid :=
 OpenClaim.holds_of_wide 4 Try.f4 rfl rfl rfl rfl rfl rfl rfl ⟨rfl, rfl, rfl, rfl, rfl⟩ rfl rfl rfl rfl rfl simplexScales_n1 Try.func4 simplexScales_facts simplexScales_n3 simplexScales_n4
  (fun os started H enc _ => simplexScales_lifted os started H enc)
#print axioms simplexScales_holds
end Go.Proofs.Ytncgbjhojbnecaa
