/- A problem with one place more has it behind the others, and nothing else is other, and its columns are what the rows have: the law ShapeWith is true of every input, and leaves it as it was; no conditions. -/
import Derived.WalkKit
import Derived.ProofKit
import Derived.OpenShut
import Derived.ShutString
import Derived.ChangeOld
import Derived.Below
import Derived.Test.YtdhkdnmefeeclaaK0
import Derived.Test.YtdhkdnmefeeclaaX1
import Derived.Test.YtdhkdnmefeeclaaX7
set_option linter.unusedSimpArgs false
set_option linter.unusedVariables false
set_option linter.unnecessarySimpa false
set_option linter.unusedVariables false
set_option maxRecDepth 100000
set_option maxHeartbeats 4000000
namespace Go.Proofs.Ytdhkdnmefeeclaa
open Go Go.Am Go.Proofs Go.RowKit Go.Off
open Go.ChangeShapes Go.WideShapes Go.ChangeAt
open Go.ChangeMaps (open_string shut_string)

set_option maxRecDepth 100000 in
theorem shapeWith_lifted (os : Os) (started : os.Started) (H : Type) (enc : TypeId × Value → H) :
    ReturnsInHanded {} Try.checked os 17 .any (Rows.shapeWithSpec.pre6 enc Try.prog Try.f17 Rows.shapeWithRow.domain false) (Rows.shapeWithSpec.post enc Try.prog Try.f17 false true false false) := by
  refine returnsInHanded_of_change (C := Try.checked) ownK started (by kernel_rfl) Try.func17
    (ChangeSpec.witness6 (enc := enc) (C := Try.checked) false ⟨#[], #[.agg #[.slice none 0 0, .slice none 0 0, .slice none 0 0], .slice none 0 0, .agg #[.bool false, .slice none 0 0, .slice none 0 0], .int .i64 0], []⟩ 8 (by kernel_rfl) (by kernel_rfl) (by kernel_rfl) (by kernel_rfl)) ?_
  intro W base args ds gs before hval0 hW hcnd _
  have hval : ∀ (j : Nat) t v, Try.f17.params[j]? = some t → args[j]? = some v → Value.okWide Try.prog W .any base t v := hval0
  have hW' := hW
  obtain ⟨p, q, hA0, hV, rfl, hfz, hnd⟩ := hW
  have hA : DataW.TrodAll enc Try.prog W 0 (fun _ => true) true Try.f17.params.toList args.toList ds p := hA0
  rw [Try.params17] at hA hval
  obtain ⟨v0, vs0, d0, ds0, p0, q0, hargs, rfl, rfl, h0, r0⟩ := trodAll_cons hA
  obtain ⟨v1, vs1, d1, ds1, p1, q1, rfl, rfl, rfl, h1, r1⟩ := trodAll_cons r0
  obtain ⟨v2, vs2, d2, ds2, p2, q2, rfl, rfl, rfl, h2, r2⟩ := trodAll_cons r1
  obtain ⟨v3, vs3, d3, ds3, p3, q3, rfl, rfl, rfl, h3, r3⟩ := trodAll_cons r2
  obtain ⟨rfl, rfl, rfl⟩ := trodAll_nil r3
  obtain rfl : args = #[v0, v1, v2, v3] := by cases args; simp_all
  obtain ⟨rfl, rfl⟩ := trodVars_none hV
  obtain ⟨cs0, rfl⟩ : ∃ cs, v0 = .agg cs := by
    have h := hval 0 86 v0 rfl rfl
    unfold Value.okWide at h
    rw [Try.underlying86] at h
    exact h.imp fun cs hc => hc.1
  have lt0 : ∀ x ∈ p0, x.block < W.heap.size := by obtain ⟨m, hm⟩ := h0; exact DataW.trod_lt m _ _ _ hm
  obtain ⟨x1, l1, c1, rfl⟩ := okWide_slice Try.underlying22 (hval 1 22 v1 rfl rfl)
  have lt1 : ∀ x ∈ p1, x.block < W.heap.size := by obtain ⟨m, hm⟩ := h1; exact DataW.trod_lt m _ _ _ hm
  obtain ⟨cs2, rfl⟩ : ∃ cs, v2 = .agg cs := by
    have h := hval 2 40 v2 rfl rfl
    unfold Value.okWide at h
    rw [Try.underlying40] at h
    exact h.imp fun cs hc => hc.1
  have lt2 : ∀ x ∈ p2, x.block < W.heap.size := by obtain ⟨m, hm⟩ := h2; exact DataW.trod_lt m _ _ _ hm
  obtain ⟨z3, rfl, rfl, rfl, wz3⟩ := open_int Try.underlying3 (hval 3 3 v3 rfl rfl) h3
  obtain ⟨y0, ⟨a0, e0⟩, w0⟩ := avr_agg rd_problem h0
  obtain ⟨y1, ⟨a1, e1⟩, w1⟩ := avr_cell rd_vec h1 rfl
  obtain ⟨y2, ⟨a2, _, e2⟩, w2⟩ := avr_agg rd_rat h2
  have w3 : AVR W (fun _ => False) [] hd00 (.one (.c (.val (.int .i64 z3)))) (.int .i64 z3) := .one _ _ (.c _ _ (.val _ rfl))
  have b3 : -9223372036854775808 ≤ z3 ∧ z3 ≤ 9223372036854775807 := by simpa [Lit.wf, IntKind.min, IntKind.max, IntKind.signed, IntKind.bits] using wz3
  subst e0
  cases e1
  subst e2
  clear hA0 hval0
  refine (law_calls (shapeWith_C a0 a1 a2 z3 b3.1 b3.2) (.cons w0 (.cons w1 (.cons w2 (.cons w3 .nil))))).mono fun e W' ⟨he, bel⟩ => ?_
  subst he
  exact ⟨_, rfl, _, _, _, [], _, [], hW', trodAll_mk1 (shut_bool Try.underlying4 _), (trodAll_cons_mk (Below.trod laidK (by kernel_rfl) (of_decide_eq_true (by kernel_rfl)) h0 bel lt0) (trodAll_cons_mk (Below.trod laidK (by kernel_rfl) (of_decide_eq_true (by kernel_rfl)) h1 bel lt1) (trodAll_cons_mk (Below.trod laidK (by kernel_rfl) (of_decide_eq_true (by kernel_rfl)) h2 bel lt2) (trodAll_cons_mk (shut_int Try.underlying3 wz3) trodAll_mk0)))), rfl, bel.frame _, fun h => by cases h⟩

theorem shapeWith_k0 : Rows.shapeWithRow.wf (OpenSpec.ofChange Rows.shapeWithSpec) = true := by kernel_rfl
theorem shapeWith_k3 : Try.f17.params.all (Try.prog.readableRec ·) = true := by kernel_rfl
theorem shapeWith_k4 : namedTie Try.prog Rows.shapeWithRow.named Rows.shapeWithSpec.vars = true := by kernel_rfl
theorem shapeWith_k5 : (Rows.shapeWithRow.stops == []) = true := by kernel_rfl
theorem shapeWith_k7 : (Rows.shapeWithRow.knobs == []) = true := by kernel_rfl
theorem shapeWith_k9 : (Rows.shapeWithRow.inPlace == Try.prog.inPlace 17) = true := by kernel_rfl
theorem shapeWith_k10 : (Rows.shapeWithRow.unfollowed == Try.prog.unfollowed 17) = true := by kernel_rfl
theorem shapeWith_k11 : (Rows.shapeWithRow.recurses == Try.prog.recurses 17) = true := by kernel_rfl
theorem shapeWith_k12 : (Rows.shapeWithRow.named == Try.prog.varsNamed 17) = true := by kernel_rfl
theorem shapeWith_k13 : (Rows.shapeWithRow.maps == (Try.f17.params.toList ++ Rows.shapeWithSpec.plain.varTypes Try.prog).any (Try.prog.mapsRec ·)) = true := by kernel_rfl
theorem shapeWith_k14 : (Rows.shapeWithRow.ifaces == (Try.f17.params.toList ++ Rows.shapeWithSpec.plain.varTypes Try.prog).any (Try.prog.ifacesRec ·)) = true := by kernel_rfl
theorem shapeWith_k15 : (Rows.shapeWithRow.mapsOut == Try.prog.mapsAmong Try.f17.resultTypes.toList) = true := by kernel_rfl
theorem shapeWith_k16 : (Rows.shapeWithRow.loops == (Try.f17.params.toList ++ Rows.shapeWithSpec.plain.varTypes Try.prog).any (Try.prog.loopsFrom ·)) = true := by kernel_rfl
theorem shapeWith_k17 : (Rows.shapeWithRow.wideKeys == (Try.f17.params.toList ++ Rows.shapeWithSpec.plain.varTypes Try.prog ++ Try.f17.resultTypes.toList).any (Try.prog.wideKeysFrom ·)) = true := by kernel_rfl
theorem shapeWith_k18 : Rows.shapeWithSpec.vars.all (Try.prog.varReadable ·) = true := by kernel_rfl
theorem shapeWith_k19 : Try.f17.resultTypes.all (fun t => Try.prog.readableRec t && decide (t < Try.prog.types.size)) = true := by kernel_rfl
theorem shapeWith_k20 : (Rows.shapeWithRow.ifacesOut == Try.f17.resultTypes.toList.any (Try.prog.ifacesRec ·)) = true := by kernel_rfl
theorem shapeWith_k21 : (Rows.shapeWithRow.loopsOut == Try.f17.resultTypes.toList.any (Try.prog.loopsFrom ·)) = true := by kernel_rfl
theorem shapeWith_k22 : (Rows.shapeWithRow.plainKeys == Try.prog.plainKeys) = true := by rw [kp22]; rfl
theorem shapeWith_k23 : Rows.shapeWithRow.shortTexts.isNone = true := by kernel_rfl
theorem shapeWith_k26 : (Rows.shapeWithRow.lifted == Try.prog.liftsFinal) = true := by rw [kp26]; rfl
theorem shapeWith_k27 : (Try.prog.make == some Rows.shapeWithRow.make) = true := by rw [kp27]; rfl
theorem shapeWith_k28 : (Rows.shapeWithRow.kinds == (if Rows.shapeWithRow.domain.isEmpty then [] else Try.f17.params.toList.map fun t => match Try.prog.underlying t with | some (.int k) => some k | _ => none)) = true := by kernel_rfl
theorem shapeWith_k29 : (Rows.shapeWithRow.pinned == Rows.shapeWithRow.pinnedBy) = true := by kernel_rfl
theorem shapeWith_k30 : (Rows.shapeWithRow.veiled == (Try.f17.params.toList ++ Rows.shapeWithSpec.plain.varTypes Try.prog ++ Try.f17.resultTypes.toList).any (Try.prog.veiledRec ·)) = true := by kernel_rfl
theorem shapeWith_k31 : Rows.shapeWithRow.veiledFits Try.prog Try.f17.params.toList (Try.f17.params.toList ++ Rows.shapeWithSpec.plain.varTypes Try.prog ++ Try.f17.resultTypes.toList) = true := by kernel_rfl
theorem shapeWith_facts : joinedFacts Try.prog 17 Try.f17 Rows.shapeWithSpec Rows.shapeWithRow = true := (andK (andK (andK (andK (andK (andK (andK (andK (andK (andK (andK (andK (andK (andK (andK (andK (andK (andK (andK (andK (andK (andK (andK (andK (andK (andK (andK (andK (andK (andK (andK shapeWith_k0 kp1) kp2) shapeWith_k3) shapeWith_k4) shapeWith_k5) kp6) shapeWith_k7) kp8) shapeWith_k9) shapeWith_k10) shapeWith_k11) shapeWith_k12) shapeWith_k13) shapeWith_k14) shapeWith_k15) shapeWith_k16) shapeWith_k17) shapeWith_k18) shapeWith_k19) shapeWith_k20) shapeWith_k21) shapeWith_k22) shapeWith_k23) kp24) kp25) shapeWith_k26) shapeWith_k27) shapeWith_k28) shapeWith_k29) shapeWith_k30) shapeWith_k31)
theorem shapeWith_n1 : Try.prog.funcNamed Rows.shapeWithRow.func = some 17 := by kernel_rfl
theorem shapeWith_n3 : Try.f17.isInstance Try.prog Rows.shapeWithRow.origin Rows.shapeWithRow.targs := of_decide_eq_true (by kernel_rfl)
theorem shapeWith_n4 : Try.f17.isWrapper Try.prog Rows.shapeWithRow.wrapper Rows.shapeWithRow.mainSum := by unfold Func.isWrapper; first | (rw [if_pos (by decide +kernel)]; kernel_rfl) | (rw [if_neg (by decide +kernel)]; exact ⟨rfl, rfl⟩)
theorem shapeWith_holds : Rows.ShapeWithSaid :=
  OpenClaim.holds_of_wide 17 Try.f17 rfl rfl rfl rfl rfl rfl rfl ⟨rfl, rfl, rfl, rfl, rfl⟩ rfl rfl rfl rfl rfl shapeWith_n1 Try.func17 shapeWith_facts shapeWith_n3 shapeWith_n4
    (fun os started H enc _ => shapeWith_lifted os started H enc)
#print axioms shapeWith_holds
end Go.Proofs.Ytdhkdnmefeeclaa
