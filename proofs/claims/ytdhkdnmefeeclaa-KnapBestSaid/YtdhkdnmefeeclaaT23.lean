/- The choice that is told fits, is worth what it is told, and nothing that fits is worth more: the law KnapBest is true of every input, and leaves it as it was; no conditions. -/
import Derived.WalkKit
import Derived.ProofKit
import Derived.OpenShut
import Derived.ShutString
import Derived.ChangeOld
import Derived.Below
import Derived.Test.YtdhkdnmefeeclaaEK
import Derived.Test.YtdhkdnmefeeclaaK0
import Derived.Test.YtdhkdnmefeeclaaSBK
set_option linter.unusedSimpArgs false
set_option linter.unusedVariables false
set_option linter.unnecessarySimpa false
set_option linter.unusedVariables false
set_option maxRecDepth 100000
set_option maxHeartbeats 4000000
namespace Go.Proofs.Ytdhkdnmefeeclaa
open Go Go.Am Go.Proofs Go.RowKit Go.Off
open Go.ChangeShapes Go.WideShapes Go.ChangeAt
open Go.ChangeMaps (open_string shut_string)

set_option maxRecDepth 100000 in
theorem knapBest_lifted (os : Os) (started : os.Started) (H : Type) (enc : TypeId × Value → H) :
    ReturnsInHanded {} Try.checked os 24 .any (Rows.knapBestSpec.pre6 enc Try.prog Try.f24 Rows.knapBestRow.domain false) (Rows.knapBestSpec.post enc Try.prog Try.f24 false true false false) := by
  refine returnsInHanded_of_change (C := Try.checked) ownK started (by kernel_rfl) Try.func24
    (ChangeSpec.witness6 (enc := enc) (C := Try.checked) false ⟨#[], #[.agg #[.int .i64 0, .slice none 0 0], .slice none 0 0], []⟩ 8 (by kernel_rfl) (by kernel_rfl) (by kernel_rfl) (by kernel_rfl)) ?_
  intro W base args ds gs before hval0 hW hcnd _
  have hval : ∀ (j : Nat) t v, Try.f24.params[j]? = some t → args[j]? = some v → Value.okWide Try.prog W .any base t v := hval0
  have hW' := hW
  obtain ⟨p, q, hA0, hV, rfl, hfz, hnd⟩ := hW
  have hA : DataW.TrodAll enc Try.prog W 0 (fun _ => true) true Try.f24.params.toList args.toList ds p := hA0
  rw [Try.params24] at hA hval
  obtain ⟨v0, vs0, d0, ds0, p0, q0, hargs, rfl, rfl, h0, r0⟩ := trodAll_cons hA
  obtain ⟨v1, vs1, d1, ds1, p1, q1, rfl, rfl, rfl, h1, r1⟩ := trodAll_cons r0
  obtain ⟨rfl, rfl, rfl⟩ := trodAll_nil r1
  obtain rfl : args = #[v0, v1] := by cases args; simp_all
  obtain ⟨rfl, rfl⟩ := trodVars_none hV
  obtain ⟨cs0, rfl⟩ : ∃ cs, v0 = .agg cs := by
    have h := hval 0 110 v0 rfl rfl
    unfold Value.okWide at h
    rw [Try.underlying110] at h
    exact h.imp fun cs hc => hc.1
  have lt0 : ∀ x ∈ p0, x.block < W.heap.size := by obtain ⟨m, hm⟩ := h0; exact DataW.trod_lt m _ _ _ hm
  obtain ⟨x1, l1, c1, rfl⟩ := okWide_slice Try.underlying22 (hval 1 22 v1 rfl rfl)
  have lt1 : ∀ x ∈ p1, x.block < W.heap.size := by obtain ⟨m, hm⟩ := h1; exact DataW.trod_lt m _ _ _ hm
  obtain ⟨y0, ⟨a0, b0, e0⟩, w0⟩ := avr_agg rd_stock h0
  obtain ⟨y1, ⟨a1, e1⟩, w1⟩ := avr_cell rd_vec h1 rfl
  subst e0
  cases e1
  clear hA0 hval0
  refine (law_calls (knapBest_C a0 a1) (.cons w0 (.cons w1 .nil))).mono fun e W' ⟨he, bel⟩ => ?_
  subst he
  exact ⟨_, rfl, _, _, _, [], _, [], hW', trodAll_mk1 (shut_bool Try.underlying4 _), (trodAll_cons_mk (Below.trod laidK (by kernel_rfl) (of_decide_eq_true (by kernel_rfl)) h0 bel lt0) (trodAll_cons_mk (Below.trod laidK (by kernel_rfl) (of_decide_eq_true (by kernel_rfl)) h1 bel lt1) trodAll_mk0)), rfl, bel.frame _, fun h => by cases h⟩

theorem knapBest_k0 : Rows.knapBestRow.wf (OpenSpec.ofChange Rows.knapBestSpec) = true := by kernel_rfl
theorem knapBest_k3 : Try.f24.params.all (Try.prog.readableRec ·) = true := by kernel_rfl
theorem knapBest_k4 : namedTie Try.prog Rows.knapBestRow.named Rows.knapBestSpec.vars = true := by kernel_rfl
theorem knapBest_k5 : (Rows.knapBestRow.stops == []) = true := by kernel_rfl
theorem knapBest_k7 : (Rows.knapBestRow.knobs == []) = true := by kernel_rfl
theorem knapBest_k9 : (Rows.knapBestRow.inPlace == Try.prog.inPlace 24) = true := by kernel_rfl
theorem knapBest_k10 : (Rows.knapBestRow.unfollowed == Try.prog.unfollowed 24) = true := by kernel_rfl
theorem knapBest_k11 : (Rows.knapBestRow.recurses == Try.prog.recurses 24) = true := by kernel_rfl
theorem knapBest_k12 : (Rows.knapBestRow.named == Try.prog.varsNamed 24) = true := by kernel_rfl
theorem knapBest_k13 : (Rows.knapBestRow.maps == (Try.f24.params.toList ++ Rows.knapBestSpec.plain.varTypes Try.prog).any (Try.prog.mapsRec ·)) = true := by kernel_rfl
theorem knapBest_k14 : (Rows.knapBestRow.ifaces == (Try.f24.params.toList ++ Rows.knapBestSpec.plain.varTypes Try.prog).any (Try.prog.ifacesRec ·)) = true := by kernel_rfl
theorem knapBest_k15 : (Rows.knapBestRow.mapsOut == Try.prog.mapsAmong Try.f24.resultTypes.toList) = true := by kernel_rfl
theorem knapBest_k16 : (Rows.knapBestRow.loops == (Try.f24.params.toList ++ Rows.knapBestSpec.plain.varTypes Try.prog).any (Try.prog.loopsFrom ·)) = true := by kernel_rfl
theorem knapBest_k17 : (Rows.knapBestRow.wideKeys == (Try.f24.params.toList ++ Rows.knapBestSpec.plain.varTypes Try.prog ++ Try.f24.resultTypes.toList).any (Try.prog.wideKeysFrom ·)) = true := by kernel_rfl
theorem knapBest_k18 : Rows.knapBestSpec.vars.all (Try.prog.varReadable ·) = true := by kernel_rfl
theorem knapBest_k19 : Try.f24.resultTypes.all (fun t => Try.prog.readableRec t && decide (t < Try.prog.types.size)) = true := by kernel_rfl
theorem knapBest_k20 : (Rows.knapBestRow.ifacesOut == Try.f24.resultTypes.toList.any (Try.prog.ifacesRec ·)) = true := by kernel_rfl
theorem knapBest_k21 : (Rows.knapBestRow.loopsOut == Try.f24.resultTypes.toList.any (Try.prog.loopsFrom ·)) = true := by kernel_rfl
theorem knapBest_k22 : (Rows.knapBestRow.plainKeys == Try.prog.plainKeys) = true := by rw [kp22]; rfl
theorem knapBest_k23 : Rows.knapBestRow.shortTexts.isNone = true := by kernel_rfl
theorem knapBest_k26 : (Rows.knapBestRow.lifted == Try.prog.liftsFinal) = true := by rw [kp26]; rfl
theorem knapBest_k27 : (Try.prog.make == some Rows.knapBestRow.make) = true := by rw [kp27]; rfl
theorem knapBest_k28 : (Rows.knapBestRow.kinds == (if Rows.knapBestRow.domain.isEmpty then [] else Try.f24.params.toList.map fun t => match Try.prog.underlying t with | some (.int k) => some k | _ => none)) = true := by kernel_rfl
theorem knapBest_k29 : (Rows.knapBestRow.pinned == Rows.knapBestRow.pinnedBy) = true := by kernel_rfl
theorem knapBest_k30 : (Rows.knapBestRow.veiled == (Try.f24.params.toList ++ Rows.knapBestSpec.plain.varTypes Try.prog ++ Try.f24.resultTypes.toList).any (Try.prog.veiledRec ·)) = true := by kernel_rfl
theorem knapBest_k31 : Rows.knapBestRow.veiledFits Try.prog Try.f24.params.toList (Try.f24.params.toList ++ Rows.knapBestSpec.plain.varTypes Try.prog ++ Try.f24.resultTypes.toList) = true := by kernel_rfl
theorem knapBest_facts : joinedFacts Try.prog 24 Try.f24 Rows.knapBestSpec Rows.knapBestRow = true := (andK (andK (andK (andK (andK (andK (andK (andK (andK (andK (andK (andK (andK (andK (andK (andK (andK (andK (andK (andK (andK (andK (andK (andK (andK (andK (andK (andK (andK (andK (andK knapBest_k0 kp1) kp2) knapBest_k3) knapBest_k4) knapBest_k5) kp6) knapBest_k7) kp8) knapBest_k9) knapBest_k10) knapBest_k11) knapBest_k12) knapBest_k13) knapBest_k14) knapBest_k15) knapBest_k16) knapBest_k17) knapBest_k18) knapBest_k19) knapBest_k20) knapBest_k21) knapBest_k22) knapBest_k23) kp24) kp25) knapBest_k26) knapBest_k27) knapBest_k28) knapBest_k29) knapBest_k30) knapBest_k31)
theorem knapBest_n1 : Try.prog.funcNamed Rows.knapBestRow.func = some 24 := by kernel_rfl
theorem knapBest_n3 : Try.f24.isInstance Try.prog Rows.knapBestRow.origin Rows.knapBestRow.targs := of_decide_eq_true (by kernel_rfl)
theorem knapBest_n4 : Try.f24.isWrapper Try.prog Rows.knapBestRow.wrapper Rows.knapBestRow.mainSum := by unfold Func.isWrapper; first | (rw [if_pos (by decide +kernel)]; kernel_rfl) | (rw [if_neg (by decide +kernel)]; exact ⟨rfl, rfl⟩)
theorem knapBest_holds : Rows.KnapBestSaid :=
  OpenClaim.holds_of_wide 24 Try.f24 rfl rfl rfl rfl rfl rfl rfl ⟨rfl, rfl, rfl, rfl, rfl⟩ rfl rfl rfl rfl rfl knapBest_n1 Try.func24 knapBest_facts knapBest_n3 knapBest_n4
    (fun os started H enc _ => knapBest_lifted os started H enc)
#print axioms knapBest_holds
end Go.Proofs.Ytdhkdnmefeeclaa
