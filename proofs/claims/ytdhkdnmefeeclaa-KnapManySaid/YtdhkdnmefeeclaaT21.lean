/- Of a roll, or a need, that is too great, there is no choice told: the law KnapMany is true of every input; no conditions. -/
import Derived.WalkKit
import Derived.ProofKit
import Derived.OpenShut
import Derived.ShutString
import Derived.ChangeOld
import Derived.Below
import Derived.Test.YtdhkdnmefeeclaaEK
import Derived.Test.YtdhkdnmefeeclaaK0
import Derived.Test.YtdhkdnmefeeclaaSMK
set_option linter.unusedSimpArgs false
set_option linter.unusedVariables false
set_option linter.unnecessarySimpa false
set_option linter.unusedVariables false
set_option maxRecDepth 100000
set_option maxHeartbeats 4000000
namespace Go.Proofs.Ytdhkdnmefeeclaa
open Go Go.Am Go.Proofs Go.RowKit Go.Off
open Go.ChangeShapes Go.WideShapes Go.ChangeAt
open Go.ChangeMaps (open_string shut_string)

set_option maxRecDepth 100000 in
theorem knapMany_lifted (os : Os) (started : os.Started) (H : Type) (enc : TypeId × Value → H) :
    ReturnsInHanded {} Try.checked os 21 .any (Rows.knapManySpec.pre6 enc Try.prog Try.f21 Rows.knapManyRow.domain false) (Rows.knapManySpec.post enc Try.prog Try.f21 false true false false) := by
  refine returnsInHanded_of_change (C := Try.checked) ownK started (by kernel_rfl) Try.func21
    (ChangeSpec.witness6 (enc := enc) (C := Try.checked) false ⟨#[], #[.int .i64 0, .int .i64 0], []⟩ 8 (by kernel_rfl) (by kernel_rfl) (by kernel_rfl) (by kernel_rfl)) ?_
  intro W base args ds gs before hval0 hW hcnd _
  have hval : ∀ (j : Nat) t v, Try.f21.params[j]? = some t → args[j]? = some v → Value.okWide Try.prog W .any base t v := hval0
  have hW' := hW
  obtain ⟨p, q, hA0, hV, rfl, hfz, hnd⟩ := hW
  have hA : DataW.TrodAll enc Try.prog W 0 (fun _ => true) true Try.f21.params.toList args.toList ds p := hA0
  rw [Try.params21] at hA hval
  obtain ⟨v0, vs0, d0, ds0, p0, q0, hargs, rfl, rfl, h0, r0⟩ := trodAll_cons hA
  obtain ⟨v1, vs1, d1, ds1, p1, q1, rfl, rfl, rfl, h1, r1⟩ := trodAll_cons r0
  obtain ⟨rfl, rfl, rfl⟩ := trodAll_nil r1
  obtain rfl : args = #[v0, v1] := by cases args; simp_all
  obtain ⟨rfl, rfl⟩ := trodVars_none hV
  obtain ⟨z0, rfl, rfl, rfl, wz0⟩ := open_int Try.underlying3 (hval 0 3 v0 rfl rfl) h0
  obtain ⟨z1, rfl, rfl, rfl, wz1⟩ := open_int Try.underlying3 (hval 1 3 v1 rfl rfl) h1
  have w0 : AVR W (fun _ => False) [] hd00 (.one (.c (.val (.int .i64 z0)))) (.int .i64 z0) := .one _ _ (.c _ _ (.val _ rfl))
  have b0 : -9223372036854775808 ≤ z0 ∧ z0 ≤ 9223372036854775807 := by simpa [Lit.wf, IntKind.min, IntKind.max, IntKind.signed, IntKind.bits] using wz0
  have w1 : AVR W (fun _ => False) [] hd00 (.one (.c (.val (.int .i64 z1)))) (.int .i64 z1) := .one _ _ (.c _ _ (.val _ rfl))
  have b1 : -9223372036854775808 ≤ z1 ∧ z1 ≤ 9223372036854775807 := by simpa [Lit.wf, IntKind.min, IntKind.max, IntKind.signed, IntKind.bits] using wz1
  clear hA0 hval0
  refine (law_calls (knapMany_C z0 z1 b0 b1) (.cons w0 (.cons w1 .nil))).mono fun e W' ⟨he, bel⟩ => ?_
  subst he
  exact ⟨_, rfl, _, _, _, [], _, [], hW', trodAll_mk1 (shut_bool Try.underlying4 _), (trodAll_cons_mk (shut_int Try.underlying3 wz0) (trodAll_cons_mk (shut_int Try.underlying3 wz1) trodAll_mk0)), rfl, bel.frame _, fun h => by cases h⟩

theorem knapMany_k0 : Rows.knapManyRow.wf (OpenSpec.ofChange Rows.knapManySpec) = true := by kernel_rfl
theorem knapMany_k3 : Try.f21.params.all (Try.prog.readableRec ·) = true := by kernel_rfl
theorem knapMany_k4 : namedTie Try.prog Rows.knapManyRow.named Rows.knapManySpec.vars = true := by kernel_rfl
theorem knapMany_k5 : (Rows.knapManyRow.stops == []) = true := by kernel_rfl
theorem knapMany_k7 : (Rows.knapManyRow.knobs == []) = true := by kernel_rfl
theorem knapMany_k9 : (Rows.knapManyRow.inPlace == Try.prog.inPlace 21) = true := by kernel_rfl
theorem knapMany_k10 : (Rows.knapManyRow.unfollowed == Try.prog.unfollowed 21) = true := by kernel_rfl
theorem knapMany_k11 : (Rows.knapManyRow.recurses == Try.prog.recurses 21) = true := by kernel_rfl
theorem knapMany_k12 : (Rows.knapManyRow.named == Try.prog.varsNamed 21) = true := by kernel_rfl
theorem knapMany_k13 : (Rows.knapManyRow.maps == (Try.f21.params.toList ++ Rows.knapManySpec.plain.varTypes Try.prog).any (Try.prog.mapsRec ·)) = true := by kernel_rfl
theorem knapMany_k14 : (Rows.knapManyRow.ifaces == (Try.f21.params.toList ++ Rows.knapManySpec.plain.varTypes Try.prog).any (Try.prog.ifacesRec ·)) = true := by kernel_rfl
theorem knapMany_k15 : (Rows.knapManyRow.mapsOut == Try.prog.mapsAmong Try.f21.resultTypes.toList) = true := by kernel_rfl
theorem knapMany_k16 : (Rows.knapManyRow.loops == (Try.f21.params.toList ++ Rows.knapManySpec.plain.varTypes Try.prog).any (Try.prog.loopsFrom ·)) = true := by kernel_rfl
theorem knapMany_k17 : (Rows.knapManyRow.wideKeys == (Try.f21.params.toList ++ Rows.knapManySpec.plain.varTypes Try.prog ++ Try.f21.resultTypes.toList).any (Try.prog.wideKeysFrom ·)) = true := by kernel_rfl
theorem knapMany_k18 : Rows.knapManySpec.vars.all (Try.prog.varReadable ·) = true := by kernel_rfl
theorem knapMany_k19 : Try.f21.resultTypes.all (fun t => Try.prog.readableRec t && decide (t < Try.prog.types.size)) = true := by kernel_rfl
theorem knapMany_k20 : (Rows.knapManyRow.ifacesOut == Try.f21.resultTypes.toList.any (Try.prog.ifacesRec ·)) = true := by kernel_rfl
theorem knapMany_k21 : (Rows.knapManyRow.loopsOut == Try.f21.resultTypes.toList.any (Try.prog.loopsFrom ·)) = true := by kernel_rfl
theorem knapMany_k22 : (Rows.knapManyRow.plainKeys == Try.prog.plainKeys) = true := by rw [kp22]; rfl
theorem knapMany_k23 : Rows.knapManyRow.shortTexts.isNone = true := by kernel_rfl
theorem knapMany_k26 : (Rows.knapManyRow.lifted == Try.prog.liftsFinal) = true := by rw [kp26]; rfl
theorem knapMany_k27 : (Try.prog.make == some Rows.knapManyRow.make) = true := by rw [kp27]; rfl
theorem knapMany_k28 : (Rows.knapManyRow.kinds == (if Rows.knapManyRow.domain.isEmpty then [] else Try.f21.params.toList.map fun t => match Try.prog.underlying t with | some (.int k) => some k | _ => none)) = true := by kernel_rfl
theorem knapMany_k29 : (Rows.knapManyRow.pinned == Rows.knapManyRow.pinnedBy) = true := by kernel_rfl
theorem knapMany_k30 : (Rows.knapManyRow.veiled == (Try.f21.params.toList ++ Rows.knapManySpec.plain.varTypes Try.prog ++ Try.f21.resultTypes.toList).any (Try.prog.veiledRec ·)) = true := by kernel_rfl
theorem knapMany_k31 : Rows.knapManyRow.veiledFits Try.prog Try.f21.params.toList (Try.f21.params.toList ++ Rows.knapManySpec.plain.varTypes Try.prog ++ Try.f21.resultTypes.toList) = true := by kernel_rfl
theorem knapMany_facts : joinedFacts Try.prog 21 Try.f21 Rows.knapManySpec Rows.knapManyRow = true := (andK (andK (andK (andK (andK (andK (andK (andK (andK (andK (andK (andK (andK (andK (andK (andK (andK (andK (andK (andK (andK (andK (andK (andK (andK (andK (andK (andK (andK (andK (andK knapMany_k0 kp1) kp2) knapMany_k3) knapMany_k4) knapMany_k5) kp6) knapMany_k7) kp8) knapMany_k9) knapMany_k10) knapMany_k11) knapMany_k12) knapMany_k13) knapMany_k14) knapMany_k15) knapMany_k16) knapMany_k17) knapMany_k18) knapMany_k19) knapMany_k20) knapMany_k21) knapMany_k22) knapMany_k23) kp24) kp25) knapMany_k26) knapMany_k27) knapMany_k28) knapMany_k29) knapMany_k30) knapMany_k31)
theorem knapMany_n1 : Try.prog.funcNamed Rows.knapManyRow.func = some 21 := by kernel_rfl
theorem knapMany_n3 : Try.f21.isInstance Try.prog Rows.knapManyRow.origin Rows.knapManyRow.targs := of_decide_eq_true (by kernel_rfl)
theorem knapMany_n4 : Try.f21.isWrapper Try.prog Rows.knapManyRow.wrapper Rows.knapManyRow.mainSum := by unfold Func.isWrapper; first | (rw [if_pos (by decide +kernel)]; kernel_rfl) | (rw [if_neg (by decide +kernel)]; exact ⟨rfl, rfl⟩)
theorem knapMany_holds : Rows.KnapManySaid :=
  OpenClaim.holds_of_wide 21 Try.f21 rfl rfl rfl rfl rfl rfl rfl ⟨rfl, rfl, rfl, rfl, rfl⟩ rfl rfl rfl rfl rfl knapMany_n1 Try.func21 knapMany_facts knapMany_n3 knapMany_n4
    (fun os started H enc _ => knapMany_lifted os started H enc)
#print axioms knapMany_holds
end Go.Proofs.Ytdhkdnmefeeclaa
