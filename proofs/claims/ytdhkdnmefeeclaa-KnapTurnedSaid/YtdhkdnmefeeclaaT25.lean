/- Items in another order have the same greatest worth; worths twice as great have twice it: the law KnapTurned is true of every input, and leaves it as it was; no conditions. -/
import Derived.WalkKit
import Derived.ProofKit
import Derived.OpenShut
import Derived.ShutString
import Derived.ChangeOld
import Derived.Below
import Derived.Test.YtdhkdnmefeeclaaEK
import Derived.Test.YtdhkdnmefeeclaaK0
import Derived.Test.YtdhkdnmefeeclaaSTK
set_option linter.unusedSimpArgs false
set_option linter.unusedVariables false
set_option linter.unnecessarySimpa false
set_option linter.unusedVariables false
set_option maxRecDepth 100000
set_option maxHeartbeats 4000000
namespace Go.Proofs.Ytdhkdnmefeeclaa
open Go Go.Am Go.Proofs Go.RowKit Go.Off
open Go.ChangeShapes Go.WideShapes Go.ChangeAt
open Go.ChangeMaps (open_string shut_string)

set_option maxRecDepth 100000 in
theorem knapTurned_lifted (os : Os) (started : os.Started) (H : Type) (enc : TypeId × Value → H) :
    ReturnsInHanded {} Try.checked os 23 .any (Rows.knapTurnedSpec.pre6 enc Try.prog Try.f23 Rows.knapTurnedRow.domain false) (Rows.knapTurnedSpec.post enc Try.prog Try.f23 false true false false) := by
  refine returnsInHanded_of_change (C := Try.checked) ownK started (by kernel_rfl) Try.func23
    (ChangeSpec.witness6 (enc := enc) (C := Try.checked) false ⟨#[], #[.agg #[.int .i64 0, .slice none 0 0], .slice none 0 0, .int .i64 0], []⟩ 8 (by kernel_rfl) (by kernel_rfl) (by kernel_rfl) (by kernel_rfl)) ?_
  intro W base args ds gs before hval0 hW hcnd _
  have hval : ∀ (j : Nat) t v, Try.f23.params[j]? = some t → args[j]? = some v → Value.okWide Try.prog W .any base t v := hval0
  have hW' := hW
  obtain ⟨p, q, hA0, hV, rfl, hfz, hnd⟩ := hW
  have hA : DataW.TrodAll enc Try.prog W 0 (fun _ => true) true Try.f23.params.toList args.toList ds p := hA0
  rw [Try.params23] at hA hval
  obtain ⟨v0, vs0, d0, ds0, p0, q0, hargs, rfl, rfl, h0, r0⟩ := trodAll_cons hA
  obtain ⟨v1, vs1, d1, ds1, p1, q1, rfl, rfl, rfl, h1, r1⟩ := trodAll_cons r0
  obtain ⟨v2, vs2, d2, ds2, p2, q2, rfl, rfl, rfl, h2, r2⟩ := trodAll_cons r1
  obtain ⟨rfl, rfl, rfl⟩ := trodAll_nil r2
  obtain rfl : args = #[v0, v1, v2] := by cases args; simp_all
  obtain ⟨rfl, rfl⟩ := trodVars_none hV
  obtain ⟨cs0, rfl⟩ : ∃ cs, v0 = .agg cs := by
    have h := hval 0 110 v0 rfl rfl
    unfold Value.okWide at h
    rw [Try.underlying110] at h
    exact h.imp fun cs hc => hc.1
  have lt0 : ∀ x ∈ p0, x.block < W.heap.size := by obtain ⟨m, hm⟩ := h0; exact DataW.trod_lt m _ _ _ hm
  obtain ⟨x1, l1, c1, rfl⟩ := okWide_slice Try.underlying22 (hval 1 22 v1 rfl rfl)
  have lt1 : ∀ x ∈ p1, x.block < W.heap.size := by obtain ⟨m, hm⟩ := h1; exact DataW.trod_lt m _ _ _ hm
  obtain ⟨z2, rfl, rfl, rfl, wz2⟩ := open_int Try.underlying3 (hval 2 3 v2 rfl rfl) h2
  obtain ⟨y0, ⟨a0, b0, e0⟩, w0⟩ := avr_agg rd_stock h0
  obtain ⟨y1, ⟨a1, e1⟩, w1⟩ := avr_cell rd_vec h1 rfl
  have w2 : AVR W (fun _ => False) [] hd00 (.one (.c (.val (.int .i64 z2)))) (.int .i64 z2) := .one _ _ (.c _ _ (.val _ rfl))
  have b2 : -9223372036854775808 ≤ z2 ∧ z2 ≤ 9223372036854775807 := by simpa [Lit.wf, IntKind.min, IntKind.max, IntKind.signed, IntKind.bits] using wz2
  subst e0
  cases e1
  clear hA0 hval0
  refine (law_calls (knapTurned_C a0 a1 z2 b2) (.cons w0 (.cons w1 (.cons w2 .nil)))).mono fun e W' ⟨he, bel⟩ => ?_
  subst he
  exact ⟨_, rfl, _, _, _, [], _, [], hW', trodAll_mk1 (shut_bool Try.underlying4 _), (trodAll_cons_mk (Below.trod laidK (by kernel_rfl) (of_decide_eq_true (by kernel_rfl)) h0 bel lt0) (trodAll_cons_mk (Below.trod laidK (by kernel_rfl) (of_decide_eq_true (by kernel_rfl)) h1 bel lt1) (trodAll_cons_mk (shut_int Try.underlying3 wz2) trodAll_mk0))), rfl, bel.frame _, fun h => by cases h⟩

theorem knapTurned_k0 : Rows.knapTurnedRow.wf (OpenSpec.ofChange Rows.knapTurnedSpec) = true := by kernel_rfl
theorem knapTurned_k3 : Try.f23.params.all (Try.prog.readableRec ·) = true := by kernel_rfl
theorem knapTurned_k4 : namedTie Try.prog Rows.knapTurnedRow.named Rows.knapTurnedSpec.vars = true := by kernel_rfl
theorem knapTurned_k5 : (Rows.knapTurnedRow.stops == []) = true := by kernel_rfl
theorem knapTurned_k7 : (Rows.knapTurnedRow.knobs == []) = true := by kernel_rfl
theorem knapTurned_k9 : (Rows.knapTurnedRow.inPlace == Try.prog.inPlace 23) = true := by kernel_rfl
theorem knapTurned_k10 : (Rows.knapTurnedRow.unfollowed == Try.prog.unfollowed 23) = true := by kernel_rfl
theorem knapTurned_k11 : (Rows.knapTurnedRow.recurses == Try.prog.recurses 23) = true := by kernel_rfl
theorem knapTurned_k12 : (Rows.knapTurnedRow.named == Try.prog.varsNamed 23) = true := by kernel_rfl
theorem knapTurned_k13 : (Rows.knapTurnedRow.maps == (Try.f23.params.toList ++ Rows.knapTurnedSpec.plain.varTypes Try.prog).any (Try.prog.mapsRec ·)) = true := by kernel_rfl
theorem knapTurned_k14 : (Rows.knapTurnedRow.ifaces == (Try.f23.params.toList ++ Rows.knapTurnedSpec.plain.varTypes Try.prog).any (Try.prog.ifacesRec ·)) = true := by kernel_rfl
theorem knapTurned_k15 : (Rows.knapTurnedRow.mapsOut == Try.prog.mapsAmong Try.f23.resultTypes.toList) = true := by kernel_rfl
theorem knapTurned_k16 : (Rows.knapTurnedRow.loops == (Try.f23.params.toList ++ Rows.knapTurnedSpec.plain.varTypes Try.prog).any (Try.prog.loopsFrom ·)) = true := by kernel_rfl
theorem knapTurned_k17 : (Rows.knapTurnedRow.wideKeys == (Try.f23.params.toList ++ Rows.knapTurnedSpec.plain.varTypes Try.prog ++ Try.f23.resultTypes.toList).any (Try.prog.wideKeysFrom ·)) = true := by kernel_rfl
theorem knapTurned_k18 : Rows.knapTurnedSpec.vars.all (Try.prog.varReadable ·) = true := by kernel_rfl
theorem knapTurned_k19 : Try.f23.resultTypes.all (fun t => Try.prog.readableRec t && decide (t < Try.prog.types.size)) = true := by kernel_rfl
theorem knapTurned_k20 : (Rows.knapTurnedRow.ifacesOut == Try.f23.resultTypes.toList.any (Try.prog.ifacesRec ·)) = true := by kernel_rfl
theorem knapTurned_k21 : (Rows.knapTurnedRow.loopsOut == Try.f23.resultTypes.toList.any (Try.prog.loopsFrom ·)) = true := by kernel_rfl
theorem knapTurned_k22 : (Rows.knapTurnedRow.plainKeys == Try.prog.plainKeys) = true := by rw [kp22]; rfl
theorem knapTurned_k23 : Rows.knapTurnedRow.shortTexts.isNone = true := by kernel_rfl
theorem knapTurned_k26 : (Rows.knapTurnedRow.lifted == Try.prog.liftsFinal) = true := by rw [kp26]; rfl
theorem knapTurned_k27 : (Try.prog.make == some Rows.knapTurnedRow.make) = true := by rw [kp27]; rfl
theorem knapTurned_k28 : (Rows.knapTurnedRow.kinds == (if Rows.knapTurnedRow.domain.isEmpty then [] else Try.f23.params.toList.map fun t => match Try.prog.underlying t with | some (.int k) => some k | _ => none)) = true := by kernel_rfl
theorem knapTurned_k29 : (Rows.knapTurnedRow.pinned == Rows.knapTurnedRow.pinnedBy) = true := by kernel_rfl
theorem knapTurned_k30 : (Rows.knapTurnedRow.veiled == (Try.f23.params.toList ++ Rows.knapTurnedSpec.plain.varTypes Try.prog ++ Try.f23.resultTypes.toList).any (Try.prog.veiledRec ·)) = true := by kernel_rfl
theorem knapTurned_k31 : Rows.knapTurnedRow.veiledFits Try.prog Try.f23.params.toList (Try.f23.params.toList ++ Rows.knapTurnedSpec.plain.varTypes Try.prog ++ Try.f23.resultTypes.toList) = true := by kernel_rfl
theorem knapTurned_facts : joinedFacts Try.prog 23 Try.f23 Rows.knapTurnedSpec Rows.knapTurnedRow = true := (andK (andK (andK (andK (andK (andK (andK (andK (andK (andK (andK (andK (andK (andK (andK (andK (andK (andK (andK (andK (andK (andK (andK (andK (andK (andK (andK (andK (andK (andK (andK knapTurned_k0 kp1) kp2) knapTurned_k3) knapTurned_k4) knapTurned_k5) kp6) knapTurned_k7) kp8) knapTurned_k9) knapTurned_k10) knapTurned_k11) knapTurned_k12) knapTurned_k13) knapTurned_k14) knapTurned_k15) knapTurned_k16) knapTurned_k17) knapTurned_k18) knapTurned_k19) knapTurned_k20) knapTurned_k21) knapTurned_k22) knapTurned_k23) kp24) kp25) knapTurned_k26) knapTurned_k27) knapTurned_k28) knapTurned_k29) knapTurned_k30) knapTurned_k31)
theorem knapTurned_n1 : Try.prog.funcNamed Rows.knapTurnedRow.func = some 23 := by kernel_rfl
theorem knapTurned_n3 : Try.f23.isInstance Try.prog Rows.knapTurnedRow.origin Rows.knapTurnedRow.targs := of_decide_eq_true (by kernel_rfl)
theorem knapTurned_n4 : Try.f23.isWrapper Try.prog Rows.knapTurnedRow.wrapper Rows.knapTurnedRow.mainSum := by unfold Func.isWrapper; first | (rw [if_pos (by decide +kernel)]; kernel_rfl) | (rw [if_neg (by decide +kernel)]; exact ⟨rfl, rfl⟩)
theorem knapTurned_holds : Rows.KnapTurnedSaid :=
  OpenClaim.holds_of_wide 23 Try.f23 rfl rfl rfl rfl rfl rfl rfl ⟨rfl, rfl, rfl, rfl, rfl⟩ rfl rfl rfl rfl rfl knapTurned_n1 Try.func23 knapTurned_facts knapTurned_n3 knapTurned_n4
    (fun os started H enc _ => knapTurned_lifted os started H enc)
#print axioms knapTurned_holds
end Go.Proofs.Ytdhkdnmefeeclaa
