/- What fits a problem, of two, fits mixed, half of each: the law ShapeMix is true of every input, and leaves it as it was; no conditions. -/
import Derived.WalkKit
import Derived.ProofKit
import Derived.OpenShut
import Derived.ShutString
import Derived.ChangeOld
import Derived.Below
import Derived.Test.YtdhkdnmefeeclaaK0
import Derived.Test.YtdhkdnmefeeclaaX1
import Derived.Test.YtdhkdnmefeeclaaX5
set_option linter.unusedSimpArgs false
set_option linter.unusedVariables false
set_option linter.unnecessarySimpa false
set_option linter.unusedVariables false
set_option maxRecDepth 100000
set_option maxHeartbeats 4000000
namespace Go.Proofs.Ytdhkdnmefeeclaa
open Go Go.Am Go.Proofs Go.RowKit Go.Off
open Go.ChangeShapes Go.WideShapes Go.ChangeAt
open Go.ChangeMaps (open_string shut_string)

set_option maxRecDepth 100000 in
theorem shapeMix_lifted (os : Os) (started : os.Started) (H : Type) (enc : TypeId × Value → H) :
    ReturnsInHanded {} Try.checked os 18 .any (Rows.shapeMixSpec.pre6 enc Try.prog Try.f18 Rows.shapeMixRow.domain false) (Rows.shapeMixSpec.post enc Try.prog Try.f18 false true false false) := by
  refine returnsInHanded_of_change (C := Try.checked) ownK started (by kernel_rfl) Try.func18
    (ChangeSpec.witness6 (enc := enc) (C := Try.checked) false ⟨#[], #[.agg #[.slice none 0 0, .slice none 0 0, .slice none 0 0], .slice none 0 0, .slice none 0 0], []⟩ 8 (by kernel_rfl) (by kernel_rfl) (by kernel_rfl) (by kernel_rfl)) ?_
  intro W base args ds gs before hval0 hW hcnd _
  have hval : ∀ (j : Nat) t v, Try.f18.params[j]? = some t → args[j]? = some v → Value.okWide Try.prog W .any base t v := hval0
  have hW' := hW
  obtain ⟨p, q, hA0, hV, rfl, hfz, hnd⟩ := hW
  have hA : DataW.TrodAll enc Try.prog W 0 (fun _ => true) true Try.f18.params.toList args.toList ds p := hA0
  rw [Try.params18] at hA hval
  obtain ⟨v0, vs0, d0, ds0, p0, q0, hargs, rfl, rfl, h0, r0⟩ := trodAll_cons hA
  obtain ⟨v1, vs1, d1, ds1, p1, q1, rfl, rfl, rfl, h1, r1⟩ := trodAll_cons r0
  obtain ⟨v2, vs2, d2, ds2, p2, q2, rfl, rfl, rfl, h2, r2⟩ := trodAll_cons r1
  obtain ⟨rfl, rfl, rfl⟩ := trodAll_nil r2
  obtain rfl : args = #[v0, v1, v2] := by cases args; simp_all
  obtain ⟨rfl, rfl⟩ := trodVars_none hV
  obtain ⟨cs0, rfl⟩ : ∃ cs, v0 = .agg cs := by
    have h := hval 0 86 v0 rfl rfl
    unfold Value.okWide at h
    rw [Try.underlying86] at h
    exact h.imp fun cs hc => hc.1
  have lt0 : ∀ x ∈ p0, x.block < W.heap.size := by obtain ⟨m, hm⟩ := h0; exact DataW.trod_lt m _ _ _ hm
  obtain ⟨x1, l1, c1, rfl⟩ := okWide_slice Try.underlying22 (hval 1 22 v1 rfl rfl)
  have lt1 : ∀ x ∈ p1, x.block < W.heap.size := by obtain ⟨m, hm⟩ := h1; exact DataW.trod_lt m _ _ _ hm
  obtain ⟨x2, l2, c2, rfl⟩ := okWide_slice Try.underlying22 (hval 2 22 v2 rfl rfl)
  have lt2 : ∀ x ∈ p2, x.block < W.heap.size := by obtain ⟨m, hm⟩ := h2; exact DataW.trod_lt m _ _ _ hm
  obtain ⟨y0, ⟨a0, e0⟩, w0⟩ := avr_agg rd_problem h0
  obtain ⟨y1, ⟨a1, e1⟩, w1⟩ := avr_cell rd_vec h1 rfl
  obtain ⟨y2, ⟨a2, e2⟩, w2⟩ := avr_cell rd_vec h2 rfl
  subst e0
  cases e1
  cases e2
  clear hA0 hval0
  refine (law_calls (shapeMix_C a0 a1 a2) (.cons w0 (.cons w1 (.cons w2 .nil)))).mono fun e W' ⟨he, bel⟩ => ?_
  subst he
  exact ⟨_, rfl, _, _, _, [], _, [], hW', trodAll_mk1 (shut_bool Try.underlying4 _), (trodAll_cons_mk (Below.trod laidK (by kernel_rfl) (of_decide_eq_true (by kernel_rfl)) h0 bel lt0) (trodAll_cons_mk (Below.trod laidK (by kernel_rfl) (of_decide_eq_true (by kernel_rfl)) h1 bel lt1) (trodAll_cons_mk (Below.trod laidK (by kernel_rfl) (of_decide_eq_true (by kernel_rfl)) h2 bel lt2) trodAll_mk0))), rfl, bel.frame _, fun h => by cases h⟩

theorem shapeMix_k0 : Rows.shapeMixRow.wf (OpenSpec.ofChange Rows.shapeMixSpec) = true := by kernel_rfl
theorem shapeMix_k3 : Try.f18.params.all (Try.prog.readableRec ·) = true := by kernel_rfl
theorem shapeMix_k4 : namedTie Try.prog Rows.shapeMixRow.named Rows.shapeMixSpec.vars = true := by kernel_rfl
theorem shapeMix_k5 : (Rows.shapeMixRow.stops == []) = true := by kernel_rfl
theorem shapeMix_k7 : (Rows.shapeMixRow.knobs == []) = true := by kernel_rfl
theorem shapeMix_k9 : (Rows.shapeMixRow.inPlace == Try.prog.inPlace 18) = true := by kernel_rfl
theorem shapeMix_k10 : (Rows.shapeMixRow.unfollowed == Try.prog.unfollowed 18) = true := by kernel_rfl
theorem shapeMix_k11 : (Rows.shapeMixRow.recurses == Try.prog.recurses 18) = true := by kernel_rfl
theorem shapeMix_k12 : (Rows.shapeMixRow.named == Try.prog.varsNamed 18) = true := by kernel_rfl
theorem shapeMix_k13 : (Rows.shapeMixRow.maps == (Try.f18.params.toList ++ Rows.shapeMixSpec.plain.varTypes Try.prog).any (Try.prog.mapsRec ·)) = true := by kernel_rfl
theorem shapeMix_k14 : (Rows.shapeMixRow.ifaces == (Try.f18.params.toList ++ Rows.shapeMixSpec.plain.varTypes Try.prog).any (Try.prog.ifacesRec ·)) = true := by kernel_rfl
theorem shapeMix_k15 : (Rows.shapeMixRow.mapsOut == Try.prog.mapsAmong Try.f18.resultTypes.toList) = true := by kernel_rfl
theorem shapeMix_k16 : (Rows.shapeMixRow.loops == (Try.f18.params.toList ++ Rows.shapeMixSpec.plain.varTypes Try.prog).any (Try.prog.loopsFrom ·)) = true := by kernel_rfl
theorem shapeMix_k17 : (Rows.shapeMixRow.wideKeys == (Try.f18.params.toList ++ Rows.shapeMixSpec.plain.varTypes Try.prog ++ Try.f18.resultTypes.toList).any (Try.prog.wideKeysFrom ·)) = true := by kernel_rfl
theorem shapeMix_k18 : Rows.shapeMixSpec.vars.all (Try.prog.varReadable ·) = true := by kernel_rfl
theorem shapeMix_k19 : Try.f18.resultTypes.all (fun t => Try.prog.readableRec t && decide (t < Try.prog.types.size)) = true := by kernel_rfl
theorem shapeMix_k20 : (Rows.shapeMixRow.ifacesOut == Try.f18.resultTypes.toList.any (Try.prog.ifacesRec ·)) = true := by kernel_rfl
theorem shapeMix_k21 : (Rows.shapeMixRow.loopsOut == Try.f18.resultTypes.toList.any (Try.prog.loopsFrom ·)) = true := by kernel_rfl
theorem shapeMix_k22 : (Rows.shapeMixRow.plainKeys == Try.prog.plainKeys) = true := by rw [kp22]; rfl
theorem shapeMix_k23 : Rows.shapeMixRow.shortTexts.isNone = true := by kernel_rfl
theorem shapeMix_k26 : (Rows.shapeMixRow.lifted == Try.prog.liftsFinal) = true := by rw [kp26]; rfl
theorem shapeMix_k27 : (Try.prog.make == some Rows.shapeMixRow.make) = true := by rw [kp27]; rfl
theorem shapeMix_k28 : (Rows.shapeMixRow.kinds == (if Rows.shapeMixRow.domain.isEmpty then [] else Try.f18.params.toList.map fun t => match Try.prog.underlying t with | some (.int k) => some k | _ => none)) = true := by kernel_rfl
theorem shapeMix_k29 : (Rows.shapeMixRow.pinned == Rows.shapeMixRow.pinnedBy) = true := by kernel_rfl
theorem shapeMix_k30 : (Rows.shapeMixRow.veiled == (Try.f18.params.toList ++ Rows.shapeMixSpec.plain.varTypes Try.prog ++ Try.f18.resultTypes.toList).any (Try.prog.veiledRec ·)) = true := by kernel_rfl
theorem shapeMix_k31 : Rows.shapeMixRow.veiledFits Try.prog Try.f18.params.toList (Try.f18.params.toList ++ Rows.shapeMixSpec.plain.varTypes Try.prog ++ Try.f18.resultTypes.toList) = true := by kernel_rfl
theorem shapeMix_facts : joinedFacts Try.prog 18 Try.f18 Rows.shapeMixSpec Rows.shapeMixRow = true := (andK (andK (andK (andK (andK (andK (andK (andK (andK (andK (andK (andK (andK (andK (andK (andK (andK (andK (andK (andK (andK (andK (andK (andK (andK (andK (andK (andK (andK (andK (andK shapeMix_k0 kp1) kp2) shapeMix_k3) shapeMix_k4) shapeMix_k5) kp6) shapeMix_k7) kp8) shapeMix_k9) shapeMix_k10) shapeMix_k11) shapeMix_k12) shapeMix_k13) shapeMix_k14) shapeMix_k15) shapeMix_k16) shapeMix_k17) shapeMix_k18) shapeMix_k19) shapeMix_k20) shapeMix_k21) shapeMix_k22) shapeMix_k23) kp24) kp25) shapeMix_k26) shapeMix_k27) shapeMix_k28) shapeMix_k29) shapeMix_k30) shapeMix_k31)
theorem shapeMix_n1 : Try.prog.funcNamed Rows.shapeMixRow.func = some 18 := by kernel_rfl
theorem shapeMix_n3 : Try.f18.isInstance Try.prog Rows.shapeMixRow.origin Rows.shapeMixRow.targs := of_decide_eq_true (by kernel_rfl)
theorem shapeMix_n4 : Try.f18.isWrapper Try.prog Rows.shapeMixRow.wrapper Rows.shapeMixRow.mainSum := by unfold Func.isWrapper; first | (rw [if_pos (by decide +kernel)]; kernel_rfl) | (rw [if_neg (by decide +kernel)]; exact ⟨rfl, rfl⟩)
theorem shapeMix_holds : Rows.ShapeMixSaid :=
  OpenClaim.holds_of_wide 18 Try.f18 rfl rfl rfl rfl rfl rfl rfl ⟨rfl, rfl, rfl, rfl, rfl⟩ rfl rfl rfl rfl rfl shapeMix_n1 Try.func18 shapeMix_facts shapeMix_n3 shapeMix_n4
    (fun os started H enc _ => shapeMix_lifted os started H enc)
#print axioms shapeMix_holds
end Go.Proofs.Ytdhkdnmefeeclaa
