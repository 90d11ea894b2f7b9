/- In a wider roll the greatest worth is not less; with one more of an item neither: the law KnapWider is true of every input, and leaves it as it was; no conditions. -/
import Derived.WalkKit
import Derived.ProofKit
import Derived.OpenShut
import Derived.ShutString
import Derived.ChangeOld
import Derived.Below
import Derived.Test.YtdhkdnmefeeclaaEK
import Derived.Test.YtdhkdnmefeeclaaK0
import Derived.Test.YtdhkdnmefeeclaaSWK
set_option linter.unusedSimpArgs false
set_option linter.unusedVariables false
set_option linter.unnecessarySimpa false
set_option linter.unusedVariables false
set_option maxRecDepth 100000
set_option maxHeartbeats 4000000
namespace Go.Proofs.Ytdhkdnmefeeclaa
open Go Go.Am Go.Proofs Go.RowKit Go.Off
open Go.ChangeShapes Go.WideShapes Go.ChangeAt
open Go.ChangeMaps (open_string shut_string)

set_option maxRecDepth 100000 in
theorem knapWider_lifted (os : Os) (started : os.Started) (H : Type) (enc : TypeId × Value → H) :
    ReturnsInHanded {} Try.checked os 20 .any (Rows.knapWiderSpec.pre6 enc Try.prog Try.f20 Rows.knapWiderRow.domain false) (Rows.knapWiderSpec.post enc Try.prog Try.f20 false true false false) := by
  refine returnsInHanded_of_change (C := Try.checked) ownK started (by kernel_rfl) Try.func20
    (ChangeSpec.witness6 (enc := enc) (C := Try.checked) false ⟨#[], #[.agg #[.int .i64 0, .slice none 0 0], .slice none 0 0, .int .i64 0, .int .u8 0], []⟩ 8 (by kernel_rfl) (by kernel_rfl) (by kernel_rfl) (by kernel_rfl)) ?_
  intro W base args ds gs before hval0 hW hcnd _
  have hval : ∀ (j : Nat) t v, Try.f20.params[j]? = some t → args[j]? = some v → Value.okWide Try.prog W .any base t v := hval0
  have hW' := hW
  obtain ⟨p, q, hA0, hV, rfl, hfz, hnd⟩ := hW
  have hA : DataW.TrodAll enc Try.prog W 0 (fun _ => true) true Try.f20.params.toList args.toList ds p := hA0
  rw [Try.params20] at hA hval
  obtain ⟨v0, vs0, d0, ds0, p0, q0, hargs, rfl, rfl, h0, r0⟩ := trodAll_cons hA
  obtain ⟨v1, vs1, d1, ds1, p1, q1, rfl, rfl, rfl, h1, r1⟩ := trodAll_cons r0
  obtain ⟨v2, vs2, d2, ds2, p2, q2, rfl, rfl, rfl, h2, r2⟩ := trodAll_cons r1
  obtain ⟨v3, vs3, d3, ds3, p3, q3, rfl, rfl, rfl, h3, r3⟩ := trodAll_cons r2
  obtain ⟨rfl, rfl, rfl⟩ := trodAll_nil r3
  obtain rfl : args = #[v0, v1, v2, v3] := by cases args; simp_all
  obtain ⟨rfl, rfl⟩ := trodVars_none hV
  obtain ⟨cs0, rfl⟩ : ∃ cs, v0 = .agg cs := by
    have h := hval 0 110 v0 rfl rfl
    unfold Value.okWide at h
    rw [Try.underlying110] at h
    exact h.imp fun cs hc => hc.1
  have lt0 : ∀ x ∈ p0, x.block < W.heap.size := by obtain ⟨m, hm⟩ := h0; exact DataW.trod_lt m _ _ _ hm
  obtain ⟨x1, l1, c1, rfl⟩ := okWide_slice Try.underlying22 (hval 1 22 v1 rfl rfl)
  have lt1 : ∀ x ∈ p1, x.block < W.heap.size := by obtain ⟨m, hm⟩ := h1; exact DataW.trod_lt m _ _ _ hm
  obtain ⟨z2, rfl, rfl, rfl, wz2⟩ := open_int Try.underlying3 (hval 2 3 v2 rfl rfl) h2
  obtain ⟨z3, rfl, rfl, rfl, wz3⟩ := open_int Try.underlying5 (hval 3 5 v3 rfl rfl) h3
  obtain ⟨y0, ⟨a0, b0, e0⟩, w0⟩ := avr_agg rd_stock h0
  obtain ⟨y1, ⟨a1, e1⟩, w1⟩ := avr_cell rd_vec h1 rfl
  have w2 : AVR W (fun _ => False) [] hd00 (.one (.c (.val (.int .i64 z2)))) (.int .i64 z2) := .one _ _ (.c _ _ (.val _ rfl))
  have b2 : -9223372036854775808 ≤ z2 ∧ z2 ≤ 9223372036854775807 := by simpa [Lit.wf, IntKind.min, IntKind.max, IntKind.signed, IntKind.bits] using wz2
  have w3 : AVR W (fun _ => False) [] hd00 (.one (.c (.val (.int .u8 z3)))) (.int .u8 z3) := .one _ _ (.c _ _ (.val _ rfl))
  have b3 : 0 ≤ z3 ∧ z3 ≤ 255 := by simpa [Lit.wf, IntKind.min, IntKind.max, IntKind.signed, IntKind.bits] using wz3
  subst e0
  cases e1
  clear hA0 hval0
  refine (law_calls (knapWider_C a0 a1 z2 z3 b2 b3) (.cons w0 (.cons w1 (.cons w2 (.cons w3 .nil))))).mono fun e W' ⟨he, bel⟩ => ?_
  subst he
  exact ⟨_, rfl, _, _, _, [], _, [], hW', trodAll_mk1 (shut_bool Try.underlying4 _), (trodAll_cons_mk (Below.trod laidK (by kernel_rfl) (of_decide_eq_true (by kernel_rfl)) h0 bel lt0) (trodAll_cons_mk (Below.trod laidK (by kernel_rfl) (of_decide_eq_true (by kernel_rfl)) h1 bel lt1) (trodAll_cons_mk (shut_int Try.underlying3 wz2) (trodAll_cons_mk (shut_int Try.underlying5 wz3) trodAll_mk0)))), rfl, bel.frame _, fun h => by cases h⟩

theorem knapWider_k0 : Rows.knapWiderRow.wf (OpenSpec.ofChange Rows.knapWiderSpec) = true := by kernel_rfl
theorem knapWider_k3 : Try.f20.params.all (Try.prog.readableRec ·) = true := by kernel_rfl
theorem knapWider_k4 : namedTie Try.prog Rows.knapWiderRow.named Rows.knapWiderSpec.vars = true := by kernel_rfl
theorem knapWider_k5 : (Rows.knapWiderRow.stops == []) = true := by kernel_rfl
theorem knapWider_k7 : (Rows.knapWiderRow.knobs == []) = true := by kernel_rfl
theorem knapWider_k9 : (Rows.knapWiderRow.inPlace == Try.prog.inPlace 20) = true := by kernel_rfl
theorem knapWider_k10 : (Rows.knapWiderRow.unfollowed == Try.prog.unfollowed 20) = true := by kernel_rfl
theorem knapWider_k11 : (Rows.knapWiderRow.recurses == Try.prog.recurses 20) = true := by kernel_rfl
theorem knapWider_k12 : (Rows.knapWiderRow.named == Try.prog.varsNamed 20) = true := by kernel_rfl
theorem knapWider_k13 : (Rows.knapWiderRow.maps == (Try.f20.params.toList ++ Rows.knapWiderSpec.plain.varTypes Try.prog).any (Try.prog.mapsRec ·)) = true := by kernel_rfl
theorem knapWider_k14 : (Rows.knapWiderRow.ifaces == (Try.f20.params.toList ++ Rows.knapWiderSpec.plain.varTypes Try.prog).any (Try.prog.ifacesRec ·)) = true := by kernel_rfl
theorem knapWider_k15 : (Rows.knapWiderRow.mapsOut == Try.prog.mapsAmong Try.f20.resultTypes.toList) = true := by kernel_rfl
theorem knapWider_k16 : (Rows.knapWiderRow.loops == (Try.f20.params.toList ++ Rows.knapWiderSpec.plain.varTypes Try.prog).any (Try.prog.loopsFrom ·)) = true := by kernel_rfl
theorem knapWider_k17 : (Rows.knapWiderRow.wideKeys == (Try.f20.params.toList ++ Rows.knapWiderSpec.plain.varTypes Try.prog ++ Try.f20.resultTypes.toList).any (Try.prog.wideKeysFrom ·)) = true := by kernel_rfl
theorem knapWider_k18 : Rows.knapWiderSpec.vars.all (Try.prog.varReadable ·) = true := by kernel_rfl
theorem knapWider_k19 : Try.f20.resultTypes.all (fun t => Try.prog.readableRec t && decide (t < Try.prog.types.size)) = true := by kernel_rfl
theorem knapWider_k20 : (Rows.knapWiderRow.ifacesOut == Try.f20.resultTypes.toList.any (Try.prog.ifacesRec ·)) = true := by kernel_rfl
theorem knapWider_k21 : (Rows.knapWiderRow.loopsOut == Try.f20.resultTypes.toList.any (Try.prog.loopsFrom ·)) = true := by kernel_rfl
theorem knapWider_k22 : (Rows.knapWiderRow.plainKeys == Try.prog.plainKeys) = true := by rw [kp22]; rfl
theorem knapWider_k23 : Rows.knapWiderRow.shortTexts.isNone = true := by kernel_rfl
theorem knapWider_k26 : (Rows.knapWiderRow.lifted == Try.prog.liftsFinal) = true := by rw [kp26]; rfl
theorem knapWider_k27 : (Try.prog.make == some Rows.knapWiderRow.make) = true := by rw [kp27]; rfl
theorem knapWider_k28 : (Rows.knapWiderRow.kinds == (if Rows.knapWiderRow.domain.isEmpty then [] else Try.f20.params.toList.map fun t => match Try.prog.underlying t with | some (.int k) => some k | _ => none)) = true := by kernel_rfl
theorem knapWider_k29 : (Rows.knapWiderRow.pinned == Rows.knapWiderRow.pinnedBy) = true := by kernel_rfl
theorem knapWider_k30 : (Rows.knapWiderRow.veiled == (Try.f20.params.toList ++ Rows.knapWiderSpec.plain.varTypes Try.prog ++ Try.f20.resultTypes.toList).any (Try.prog.veiledRec ·)) = true := by kernel_rfl
theorem knapWider_k31 : Rows.knapWiderRow.veiledFits Try.prog Try.f20.params.toList (Try.f20.params.toList ++ Rows.knapWiderSpec.plain.varTypes Try.prog ++ Try.f20.resultTypes.toList) = true := by kernel_rfl
theorem knapWider_facts : joinedFacts Try.prog 20 Try.f20 Rows.knapWiderSpec Rows.knapWiderRow = true := (andK (andK (andK (andK (andK (andK (andK (andK (andK (andK (andK (andK (andK (andK (andK (andK (andK (andK (andK (andK (andK (andK (andK (andK (andK (andK (andK (andK (andK (andK (andK knapWider_k0 kp1) kp2) knapWider_k3) knapWider_k4) knapWider_k5) kp6) knapWider_k7) kp8) knapWider_k9) knapWider_k10) knapWider_k11) knapWider_k12) knapWider_k13) knapWider_k14) knapWider_k15) knapWider_k16) knapWider_k17) knapWider_k18) knapWider_k19) knapWider_k20) knapWider_k21) knapWider_k22) knapWider_k23) kp24) kp25) knapWider_k26) knapWider_k27) knapWider_k28) knapWider_k29) knapWider_k30) knapWider_k31)
theorem knapWider_n1 : Try.prog.funcNamed Rows.knapWiderRow.func = some 20 := by kernel_rfl
theorem knapWider_n3 : Try.f20.isInstance Try.prog Rows.knapWiderRow.origin Rows.knapWiderRow.targs := of_decide_eq_true (by kernel_rfl)
theorem knapWider_n4 : Try.f20.isWrapper Try.prog Rows.knapWiderRow.wrapper Rows.knapWiderRow.mainSum := by unfold Func.isWrapper; first | (rw [if_pos (by decide +kernel)]; kernel_rfl) | (rw [if_neg (by decide +kernel)]; exact ⟨rfl, rfl⟩)
theorem knapWider_holds : Rows.KnapWiderSaid :=
  OpenClaim.holds_of_wide 20 Try.f20 rfl rfl rfl rfl rfl rfl rfl ⟨rfl, rfl, rfl, rfl, rfl⟩ rfl rfl rfl rfl rfl knapWider_n1 Try.func20 knapWider_facts knapWider_n3 knapWider_n4
    (fun os started H enc _ => knapWider_lifted os started H enc)
#print axioms knapWider_holds
end Go.Proofs.Ytdhkdnmefeeclaa
