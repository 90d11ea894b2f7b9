/- No choice that fits is worth more than what is told: the law KnapNone is true of every input, and leaves it as it was; no conditions. -/
import Derived.WalkKit
import Derived.ProofKit
import Derived.OpenShut
import Derived.ShutString
import Derived.ChangeOld
import Derived.Below
import Derived.Test.YtdhkdnmefeeclaaEK
import Derived.Test.YtdhkdnmefeeclaaK0
import Derived.Test.YtdhkdnmefeeclaaSNK
set_option linter.unusedSimpArgs false
set_option linter.unusedVariables false
set_option linter.unnecessarySimpa false
set_option linter.unusedVariables false
set_option maxRecDepth 100000
set_option maxHeartbeats 4000000
namespace Go.Proofs.Ytdhkdnmefeeclaa
open Go Go.Am Go.Proofs Go.RowKit Go.Off
open Go.ChangeShapes Go.WideShapes Go.ChangeAt
open Go.ChangeMaps (open_string shut_string)

set_option maxRecDepth 100000 in
theorem knapNone_lifted (os : Os) (started : os.Started) (H : Type) (enc : TypeId × Value → H) :
    ReturnsInHanded {} Try.checked os 22 .any (Rows.knapNoneSpec.pre6 enc Try.prog Try.f22 Rows.knapNoneRow.domain false) (Rows.knapNoneSpec.post enc Try.prog Try.f22 false true false false) := by
  refine returnsInHanded_of_change (C := Try.checked) ownK started (by kernel_rfl) Try.func22
    (ChangeSpec.witness6 (enc := enc) (C := Try.checked) false ⟨#[], #[.agg #[.int .i64 0, .slice none 0 0], .slice none 0 0, .slice none 0 0], []⟩ 8 (by kernel_rfl) (by kernel_rfl) (by kernel_rfl) (by kernel_rfl)) ?_
  intro W base args ds gs before hval0 hW hcnd _
  have hval : ∀ (j : Nat) t v, Try.f22.params[j]? = some t → args[j]? = some v → Value.okWide Try.prog W .any base t v := hval0
  have hW' := hW
  obtain ⟨p, q, hA0, hV, rfl, hfz, hnd⟩ := hW
  have hA : DataW.TrodAll enc Try.prog W 0 (fun _ => true) true Try.f22.params.toList args.toList ds p := hA0
  rw [Try.params22] at hA hval
  obtain ⟨v0, vs0, d0, ds0, p0, q0, hargs, rfl, rfl, h0, r0⟩ := trodAll_cons hA
  obtain ⟨v1, vs1, d1, ds1, p1, q1, rfl, rfl, rfl, h1, r1⟩ := trodAll_cons r0
  obtain ⟨v2, vs2, d2, ds2, p2, q2, rfl, rfl, rfl, h2, r2⟩ := trodAll_cons r1
  obtain ⟨rfl, rfl, rfl⟩ := trodAll_nil r2
  obtain rfl : args = #[v0, v1, v2] := by cases args; simp_all
  obtain ⟨rfl, rfl⟩ := trodVars_none hV
  obtain ⟨cs0, rfl⟩ : ∃ cs, v0 = .agg cs := by
    have h := hval 0 110 v0 rfl rfl
    unfold Value.okWide at h
    rw [Try.underlying110] at h
    exact h.imp fun cs hc => hc.1
  have lt0 : ∀ x ∈ p0, x.block < W.heap.size := by obtain ⟨m, hm⟩ := h0; exact DataW.trod_lt m _ _ _ hm
  obtain ⟨x1, l1, c1, rfl⟩ := okWide_slice Try.underlying22 (hval 1 22 v1 rfl rfl)
  have lt1 : ∀ x ∈ p1, x.block < W.heap.size := by obtain ⟨m, hm⟩ := h1; exact DataW.trod_lt m _ _ _ hm
  obtain ⟨x2, l2, c2, rfl⟩ := okWide_slice Try.underlying69 (hval 2 69 v2 rfl rfl)
  have lt2 : ∀ x ∈ p2, x.block < W.heap.size := by obtain ⟨m, hm⟩ := h2; exact DataW.trod_lt m _ _ _ hm
  obtain ⟨y0, ⟨a0, b0, e0⟩, w0⟩ := avr_agg rd_stock h0
  obtain ⟨y1, ⟨a1, e1⟩, w1⟩ := avr_cell rd_vec h1 rfl
  obtain ⟨y2, ⟨a2, b2, e2⟩, w2⟩ := avr_cell rd_ints h2 rfl
  subst e0
  cases e1
  cases e2
  clear hA0 hval0
  refine (law_calls (knapNone_C a0 a1 a2 b2) (.cons w0 (.cons w1 (.cons w2 .nil)))).mono fun e W' ⟨he, bel⟩ => ?_
  subst he
  exact ⟨_, rfl, _, _, _, [], _, [], hW', trodAll_mk1 (shut_bool Try.underlying4 _), (trodAll_cons_mk (Below.trod laidK (by kernel_rfl) (of_decide_eq_true (by kernel_rfl)) h0 bel lt0) (trodAll_cons_mk (Below.trod laidK (by kernel_rfl) (of_decide_eq_true (by kernel_rfl)) h1 bel lt1) (trodAll_cons_mk (Below.trod laidK (by kernel_rfl) (of_decide_eq_true (by kernel_rfl)) h2 bel lt2) trodAll_mk0))), rfl, bel.frame _, fun h => by cases h⟩

theorem knapNone_k0 : Rows.knapNoneRow.wf (OpenSpec.ofChange Rows.knapNoneSpec) = true := by kernel_rfl
theorem knapNone_k3 : Try.f22.params.all (Try.prog.readableRec ·) = true := by kernel_rfl
theorem knapNone_k4 : namedTie Try.prog Rows.knapNoneRow.named Rows.knapNoneSpec.vars = true := by kernel_rfl
theorem knapNone_k5 : (Rows.knapNoneRow.stops == []) = true := by kernel_rfl
theorem knapNone_k7 : (Rows.knapNoneRow.knobs == []) = true := by kernel_rfl
theorem knapNone_k9 : (Rows.knapNoneRow.inPlace == Try.prog.inPlace 22) = true := by kernel_rfl
theorem knapNone_k10 : (Rows.knapNoneRow.unfollowed == Try.prog.unfollowed 22) = true := by kernel_rfl
theorem knapNone_k11 : (Rows.knapNoneRow.recurses == Try.prog.recurses 22) = true := by kernel_rfl
theorem knapNone_k12 : (Rows.knapNoneRow.named == Try.prog.varsNamed 22) = true := by kernel_rfl
theorem knapNone_k13 : (Rows.knapNoneRow.maps == (Try.f22.params.toList ++ Rows.knapNoneSpec.plain.varTypes Try.prog).any (Try.prog.mapsRec ·)) = true := by kernel_rfl
theorem knapNone_k14 : (Rows.knapNoneRow.ifaces == (Try.f22.params.toList ++ Rows.knapNoneSpec.plain.varTypes Try.prog).any (Try.prog.ifacesRec ·)) = true := by kernel_rfl
theorem knapNone_k15 : (Rows.knapNoneRow.mapsOut == Try.prog.mapsAmong Try.f22.resultTypes.toList) = true := by kernel_rfl
theorem knapNone_k16 : (Rows.knapNoneRow.loops == (Try.f22.params.toList ++ Rows.knapNoneSpec.plain.varTypes Try.prog).any (Try.prog.loopsFrom ·)) = true := by kernel_rfl
theorem knapNone_k17 : (Rows.knapNoneRow.wideKeys == (Try.f22.params.toList ++ Rows.knapNoneSpec.plain.varTypes Try.prog ++ Try.f22.resultTypes.toList).any (Try.prog.wideKeysFrom ·)) = true := by kernel_rfl
theorem knapNone_k18 : Rows.knapNoneSpec.vars.all (Try.prog.varReadable ·) = true := by kernel_rfl
theorem knapNone_k19 : Try.f22.resultTypes.all (fun t => Try.prog.readableRec t && decide (t < Try.prog.types.size)) = true := by kernel_rfl
theorem knapNone_k20 : (Rows.knapNoneRow.ifacesOut == Try.f22.resultTypes.toList.any (Try.prog.ifacesRec ·)) = true := by kernel_rfl
theorem knapNone_k21 : (Rows.knapNoneRow.loopsOut == Try.f22.resultTypes.toList.any (Try.prog.loopsFrom ·)) = true := by kernel_rfl
theorem knapNone_k22 : (Rows.knapNoneRow.plainKeys == Try.prog.plainKeys) = true := by rw [kp22]; rfl
theorem knapNone_k23 : Rows.knapNoneRow.shortTexts.isNone = true := by kernel_rfl
theorem knapNone_k26 : (Rows.knapNoneRow.lifted == Try.prog.liftsFinal) = true := by rw [kp26]; rfl
theorem knapNone_k27 : (Try.prog.make == some Rows.knapNoneRow.make) = true := by rw [kp27]; rfl
theorem knapNone_k28 : (Rows.knapNoneRow.kinds == (if Rows.knapNoneRow.domain.isEmpty then [] else Try.f22.params.toList.map fun t => match Try.prog.underlying t with | some (.int k) => some k | _ => none)) = true := by kernel_rfl
theorem knapNone_k29 : (Rows.knapNoneRow.pinned == Rows.knapNoneRow.pinnedBy) = true := by kernel_rfl
theorem knapNone_k30 : (Rows.knapNoneRow.veiled == (Try.f22.params.toList ++ Rows.knapNoneSpec.plain.varTypes Try.prog ++ Try.f22.resultTypes.toList).any (Try.prog.veiledRec ·)) = true := by kernel_rfl
theorem knapNone_k31 : Rows.knapNoneRow.veiledFits Try.prog Try.f22.params.toList (Try.f22.params.toList ++ Rows.knapNoneSpec.plain.varTypes Try.prog ++ Try.f22.resultTypes.toList) = true := by kernel_rfl
theorem knapNone_facts : joinedFacts Try.prog 22 Try.f22 Rows.knapNoneSpec Rows.knapNoneRow = true := (andK (andK (andK (andK (andK (andK (andK (andK (andK (andK (andK (andK (andK (andK (andK (andK (andK (andK (andK (andK (andK (andK (andK (andK (andK (andK (andK (andK (andK (andK (andK knapNone_k0 kp1) kp2) knapNone_k3) knapNone_k4) knapNone_k5) kp6) knapNone_k7) kp8) knapNone_k9) knapNone_k10) knapNone_k11) knapNone_k12) knapNone_k13) knapNone_k14) knapNone_k15) knapNone_k16) knapNone_k17) knapNone_k18) knapNone_k19) knapNone_k20) knapNone_k21) knapNone_k22) knapNone_k23) kp24) kp25) knapNone_k26) knapNone_k27) knapNone_k28) knapNone_k29) knapNone_k30) knapNone_k31)
theorem knapNone_n1 : Try.prog.funcNamed Rows.knapNoneRow.func = some 22 := by kernel_rfl
theorem knapNone_n3 : Try.f22.isInstance Try.prog Rows.knapNoneRow.origin Rows.knapNoneRow.targs := of_decide_eq_true (by kernel_rfl)
theorem knapNone_n4 : Try.f22.isWrapper Try.prog Rows.knapNoneRow.wrapper Rows.knapNoneRow.mainSum := by unfold Func.isWrapper; first | (rw [if_pos (by decide +kernel)]; kernel_rfl) | (rw [if_neg (by decide +kernel)]; exact ⟨rfl, rfl⟩)
theorem knapNone_holds : Rows.KnapNoneSaid :=
  OpenClaim.holds_of_wide 22 Try.f22 rfl rfl rfl rfl rfl rfl rfl ⟨rfl, rfl, rfl, rfl, rfl⟩ rfl rfl rfl rfl rfl knapNone_n1 Try.func22 knapNone_facts knapNone_n3 knapNone_n4
    (fun os started H enc _ => knapNone_lifted os started H enc)
#print axioms knapNone_holds
end Go.Proofs.Ytdhkdnmefeeclaa
