/- A budget that is enough changes nothing, and one that is less than the steps that were taken is told: the law SimplexBudget is true of every input, and leaves it as it was; no conditions. -/
import Derived.WalkKit
import Derived.ProofKit
import Derived.OpenShut
import Derived.ShutString
import Derived.ChangeOld
import Derived.Below
import Derived.Test.YtncgbjhojbnecaaK0
import Derived.Test.YtncgbjhojbnecaaMB
import Derived.Test.YtncgbjhojbnecaaSD
set_option linter.unusedSimpArgs false
set_option linter.unusedVariables false
set_option linter.unnecessarySimpa false
set_option linter.unusedVariables false
set_option maxRecDepth 100000
set_option maxHeartbeats 4000000
namespace Go.Proofs.Ytncgbjhojbnecaa
open Go Go.Am Go.Proofs Go.RowKit Go.Off
open Go.ChangeShapes Go.WideShapes Go.ChangeAt
open Go.ChangeMaps (open_string shut_string)
set_option maxRecDepth 100000 in
theorem simplexBudget_lifted (os : Os) (started : os.Started) (H : Type) (enc : TypeId × Value -> H) :
  ReturnsInHanded {} Try.checked os 3 .any (Rows.simplexBudgetSpec.pre6 enc Try.prog Try.f3 Rows.simplexBudgetRow.domain false) (Rows.simplexBudgetSpec.post enc Try.prog Try.f3 false true false false) := by
 refine returnsInHanded_of_change (C := Try.checked) ownK started (by kernel_rfl) Try.func3
  (ChangeSpec.witness6 (enc := enc) (C := Try.checked) false ⟨#[], #[.agg #[.slice none 0 0, .slice none 0 0, .slice none 0 0], .int .u8 0], []⟩ 8 (by kernel_rfl) (by kernel_rfl) (by kernel_rfl) (by kernel_rfl)) ?_
 intro W base args ds gs before hval0 hW hcnd _
 have hval : ∀ (j : Nat) t v, Try.f3.params[j]? = some t -> args[j]? = some v -> Value.okWide Try.prog W .any base t v := hval0
 have hW' := hW
 obtain ⟨p, q, hA0, hV, rfl, hfz, hnd⟩ := hW
 have hA : DataW.TrodAll enc Try.prog W 0 (fun _ => true) true Try.f3.params.toList args.toList ds p := hA0
 rw [Try.params3] at hA hval
 obtain ⟨v0, vs0, d0, ds0, p0, q0, hargs, rfl, rfl, h0, r0⟩ := trodAll_cons hA
 obtain ⟨v1, vs1, d1, ds1, p1, q1, rfl, rfl, rfl, h1, r1⟩ := trodAll_cons r0
 obtain ⟨rfl, rfl, rfl⟩ := trodAll_nil r1
 obtain rfl : args = #[v0, v1] := by cases args; simp_all
 obtain ⟨rfl, rfl⟩ := trodVars_none hV
 obtain ⟨cs0, rfl⟩ : ∃ cs, v0 = .agg cs := by
  have h := hval 0 25 v0 rfl rfl
  unfold Value.okWide at h
  rw [Try.underlying25] at h
  exact h.imp fun cs hc => hc.1
 have lt0 : ∀ x ∈ p0, x.block < W.heap.size := by obtain ⟨m, hm⟩ := h0; exact DataW.trod_lt m _ _ _ hm
 obtain ⟨z1, rfl, rfl, rfl, wz1⟩ := open_int Try.underlying5 (hval 1 5 v1 rfl rfl) h1
 obtain ⟨y0, ⟨a0, e0⟩, w0⟩ := avr_agg rd_problem h0
 have w1 : AVR W (fun _ => False) [] hd00 (.one (.c (.val (.int .u8 z1)))) (.int .u8 z1) := .one _ _ (.c _ _ (.val _ rfl))
 have b1 : 0 <= z1 /\ z1 <= 255 := by simpa [Lit.wf, IntKind.min, IntKind.max, IntKind.signed, IntKind.bits] using wz1
 subst e0
 clear hA0 hval0
 refine (law_calls (simplexBudget_E a0 z1 b1) (fun g l hl => by cases hl) (.cons w0 (.cons w1 .nil))).mono fun e W' ⟨he, bel⟩ => ?_
 subst he
 exact ⟨_, rfl, _, _, _, [], _, [], hW', trodAll_mk1 (shut_bool Try.underlying4 _), (trodAll_cons_mk (Below.trod laidK (by kernel_rfl) (of_decide_eq_true (by kernel_rfl)) h0 bel lt0) (trodAll_cons_mk (shut_int Try.underlying5 wz1) trodAll_mk0)), rfl, bel.frame _, fun h => by cases h⟩
theorem simplexBudget_k0 : Rows.simplexBudgetRow.wf (OpenSpec.ofChange Rows.simplexBudgetSpec) = true := by kernel_rfl
theorem simplexBudget_k3 : Try.f3.params.all (Try.prog.readableRec ·) = true := by kernel_rfl
theorem simplexBudget_k4 : namedTie Try.prog Rows.simplexBudgetRow.named Rows.simplexBudgetSpec.vars = true := by kernel_rfl
theorem simplexBudget_k5 : (Rows.simplexBudgetRow.stops == []) = true := by kernel_rfl
theorem simplexBudget_k7 : (Rows.simplexBudgetRow.knobs == []) = true := by kernel_rfl
theorem simplexBudget_k9 : (Rows.simplexBudgetRow.inPlace == Try.prog.inPlace 3) = true := by kernel_rfl
theorem simplexBudget_k10 : (Rows.simplexBudgetRow.unfollowed == Try.prog.unfollowed 3) = true := by kernel_rfl
theorem simplexBudget_k11 : (Rows.simplexBudgetRow.recurses == Try.prog.recurses 3) = true := by kernel_rfl
theorem simplexBudget_k12 : (Rows.simplexBudgetRow.named == Try.prog.varsNamed 3) = true := by kernel_rfl
theorem simplexBudget_k13 : (Rows.simplexBudgetRow.maps == (Try.f3.params.toList ++ Rows.simplexBudgetSpec.plain.varTypes Try.prog).any (Try.prog.mapsRec ·)) = true := by kernel_rfl
theorem simplexBudget_k14 : (Rows.simplexBudgetRow.ifaces == (Try.f3.params.toList ++ Rows.simplexBudgetSpec.plain.varTypes Try.prog).any (Try.prog.ifacesRec ·)) = true := by kernel_rfl
theorem simplexBudget_k15 : (Rows.simplexBudgetRow.mapsOut == Try.prog.mapsAmong Try.f3.resultTypes.toList) = true := by kernel_rfl
theorem simplexBudget_k16 : (Rows.simplexBudgetRow.loops == (Try.f3.params.toList ++ Rows.simplexBudgetSpec.plain.varTypes Try.prog).any (Try.prog.loopsFrom ·)) = true := by kernel_rfl
theorem simplexBudget_k17 : (Rows.simplexBudgetRow.wideKeys == (Try.f3.params.toList ++ Rows.simplexBudgetSpec.plain.varTypes Try.prog ++ Try.f3.resultTypes.toList).any (Try.prog.wideKeysFrom ·)) = true := by kernel_rfl
theorem simplexBudget_k18 : Rows.simplexBudgetSpec.vars.all (Try.prog.varReadable ·) = true := by kernel_rfl
theorem simplexBudget_k19 : Try.f3.resultTypes.all (fun t => Try.prog.readableRec t && decide (t < Try.prog.types.size)) = true := by kernel_rfl
theorem simplexBudget_k20 : (Rows.simplexBudgetRow.ifacesOut == Try.f3.resultTypes.toList.any (Try.prog.ifacesRec ·)) = true := by kernel_rfl
theorem simplexBudget_k21 : (Rows.simplexBudgetRow.loopsOut == Try.f3.resultTypes.toList.any (Try.prog.loopsFrom ·)) = true := by kernel_rfl
theorem simplexBudget_k22 : (Rows.simplexBudgetRow.plainKeys == Try.prog.plainKeys) = true := by rw [kp22]; rfl
theorem simplexBudget_k23 : Rows.simplexBudgetRow.shortTexts.isNone = true := by kernel_rfl
theorem simplexBudget_k26 : (Rows.simplexBudgetRow.lifted == Try.prog.liftsFinal) = true := by rw [kp26]; rfl
theorem simplexBudget_k27 : (Try.prog.make == some Rows.simplexBudgetRow.make) = true := by rw [kp27]; rfl
theorem simplexBudget_k28 : (Rows.simplexBudgetRow.kinds == (if Rows.simplexBudgetRow.domain.isEmpty then [] else Try.f3.params.toList.map fun t => match Try.prog.underlying t with | some (.int k) => some k | _ => none)) = true := by kernel_rfl
theorem simplexBudget_k29 : (Rows.simplexBudgetRow.pinned == Rows.simplexBudgetRow.pinnedBy) = true := by kernel_rfl
theorem simplexBudget_k30 : (Rows.simplexBudgetRow.veiled == (Try.f3.params.toList ++ Rows.simplexBudgetSpec.plain.varTypes Try.prog ++ Try.f3.resultTypes.toList).any (Try.prog.veiledRec ·)) = true := by kernel_rfl
theorem simplexBudget_k31 : Rows.simplexBudgetRow.veiledFits Try.prog Try.f3.params.toList (Try.f3.params.toList ++ Rows.simplexBudgetSpec.plain.varTypes Try.prog ++ Try.f3.resultTypes.toList) = true := by kernel_rfl
theorem simplexBudget_facts : joinedFacts Try.prog 3 Try.f3 Rows.simplexBudgetSpec Rows.simplexBudgetRow = true := (andK (andK (andK (andK (andK (andK (andK (andK (andK (andK (andK (andK (andK (andK (andK (andK (andK (andK (andK (andK (andK (andK (andK (andK (andK (andK (andK (andK (andK (andK (andK simplexBudget_k0 kp1) kp2) simplexBudget_k3) simplexBudget_k4) simplexBudget_k5) kp6) simplexBudget_k7) kp8) simplexBudget_k9) simplexBudget_k10) simplexBudget_k11) simplexBudget_k12) simplexBudget_k13) simplexBudget_k14) simplexBudget_k15) simplexBudget_k16) simplexBudget_k17) simplexBudget_k18) simplexBudget_k19) simplexBudget_k20) simplexBudget_k21) simplexBudget_k22) simplexBudget_k23) kp24) kp25) simplexBudget_k26) simplexBudget_k27) simplexBudget_k28) simplexBudget_k29) simplexBudget_k30) simplexBudget_k31)
theorem simplexBudget_n1 : Try.prog.funcNamed Rows.simplexBudgetRow.func = some 3 := by kernel_rfl
theorem simplexBudget_n3 : Try.f3.isInstance Try.prog Rows.simplexBudgetRow.origin Rows.simplexBudgetRow.targs := of_decide_eq_true (by kernel_rfl)
theorem simplexBudget_n4 : Try.f3.isWrapper Try.prog Rows.simplexBudgetRow.wrapper Rows.simplexBudgetRow.mainSum := by unfold Func.isWrapper; first | (rw [if_pos (by decide +kernel)]; kernel_rfl) | (rw [if_neg (by decide +kernel)]; exact ⟨rfl, rfl⟩)
theorem simplexBudget_holds : Rows.SimplexBudgetSaid :=
 OpenClaim.holds_of_wide 3 Try.f3 rfl rfl rfl rfl rfl rfl rfl ⟨rfl, rfl, rfl, rfl, rfl⟩ rfl rfl rfl rfl rfl simplexBudget_n1 Try.func3 simplexBudget_facts simplexBudget_n3 simplexBudget_n4
  (fun os started H enc _ => simplexBudget_lifted os started H enc)
#print axioms simplexBudget_holds
end Go.Proofs.Ytncgbjhojbnecaa
