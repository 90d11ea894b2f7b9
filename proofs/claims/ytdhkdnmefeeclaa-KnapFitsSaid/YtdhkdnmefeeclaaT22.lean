/- Whether what is taken fits, how wide, and what it is worth, is what the numbers say: the law KnapFits is true of every input, and leaves it as it was; no conditions. -/
import Derived.WalkKit
import Derived.ProofKit
import Derived.OpenShut
import Derived.ShutString
import Derived.ChangeOld
import Derived.Below
import Derived.Test.YtdhkdnmefeeclaaEK
import Derived.Test.YtdhkdnmefeeclaaK0
import Derived.Test.YtdhkdnmefeeclaaSFK
set_option linter.unusedSimpArgs false
set_option linter.unusedVariables false
set_option linter.unnecessarySimpa false
set_option linter.unusedVariables false
set_option maxRecDepth 100000
set_option maxHeartbeats 4000000
namespace Go.Proofs.Ytdhkdnmefeeclaa
open Go Go.Am Go.Proofs Go.RowKit Go.Off
open Go.ChangeShapes Go.WideShapes Go.ChangeAt
open Go.ChangeMaps (open_string shut_string)

set_option maxRecDepth 100000 in
theorem knapFits_lifted (os : Os) (started : os.Started) (H : Type) (enc : TypeId × Value → H) :
    ReturnsInHanded {} Try.checked os 25 .any (Rows.knapFitsSpec.pre6 enc Try.prog Try.f25 Rows.knapFitsRow.domain false) (Rows.knapFitsSpec.post enc Try.prog Try.f25 false true false false) := by
  refine returnsInHanded_of_change (C := Try.checked) ownK started (by kernel_rfl) Try.func25
    (ChangeSpec.witness6 (enc := enc) (C := Try.checked) false ⟨#[], #[.agg #[.int .i64 0, .slice none 0 0], .slice none 0 0, .slice none 0 0], []⟩ 8 (by kernel_rfl) (by kernel_rfl) (by kernel_rfl) (by kernel_rfl)) ?_
  intro W base args ds gs before hval0 hW hcnd _
  have hval : ∀ (j : Nat) t v, Try.f25.params[j]? = some t → args[j]? = some v → Value.okWide Try.prog W .any base t v := hval0
  have hW' := hW
  obtain ⟨p, q, hA0, hV, rfl, hfz, hnd⟩ := hW
  have hA : DataW.TrodAll enc Try.prog W 0 (fun _ => true) true Try.f25.params.toList args.toList ds p := hA0
  rw [Try.params25] at hA hval
  obtain ⟨v0, vs0, d0, ds0, p0, q0, hargs, rfl, rfl, h0, r0⟩ := trodAll_cons hA
  obtain ⟨v1, vs1, d1, ds1, p1, q1, rfl, rfl, rfl, h1, r1⟩ := trodAll_cons r0
  obtain ⟨v2, vs2, d2, ds2, p2, q2, rfl, rfl, rfl, h2, r2⟩ := trodAll_cons r1
  obtain ⟨rfl, rfl, rfl⟩ := trodAll_nil r2
  obtain rfl : args = #[v0, v1, v2] := by cases args; simp_all
  obtain ⟨rfl, rfl⟩ := trodVars_none hV
  obtain ⟨cs0, rfl⟩ : ∃ cs, v0 = .agg cs := by
    have h := hval 0 110 v0 rfl rfl
    unfold Value.okWide at h
    rw [Try.underlying110] at h
    exact h.imp fun cs hc => hc.1
  have lt0 : ∀ x ∈ p0, x.block < W.heap.size := by obtain ⟨m, hm⟩ := h0; exact DataW.trod_lt m _ _ _ hm
  obtain ⟨x1, l1, c1, rfl⟩ := okWide_slice Try.underlying22 (hval 1 22 v1 rfl rfl)
  have lt1 : ∀ x ∈ p1, x.block < W.heap.size := by obtain ⟨m, hm⟩ := h1; exact DataW.trod_lt m _ _ _ hm
  obtain ⟨x2, l2, c2, rfl⟩ := okWide_slice Try.underlying69 (hval 2 69 v2 rfl rfl)
  have lt2 : ∀ x ∈ p2, x.block < W.heap.size := by obtain ⟨m, hm⟩ := h2; exact DataW.trod_lt m _ _ _ hm
  obtain ⟨y0, ⟨a0, b0, e0⟩, w0⟩ := avr_agg rd_stock h0
  obtain ⟨y1, ⟨a1, e1⟩, w1⟩ := avr_cell rd_vec h1 rfl
  obtain ⟨y2, ⟨a2, b2, e2⟩, w2⟩ := avr_cell rd_ints h2 rfl
  subst e0
  cases e1
  cases e2
  clear hA0 hval0
  refine (law_calls (knapFits_C a0 a1 a2 b2) (.cons w0 (.cons w1 (.cons w2 .nil)))).mono fun e W' ⟨he, bel⟩ => ?_
  subst he
  exact ⟨_, rfl, _, _, _, [], _, [], hW', trodAll_mk1 (shut_bool Try.underlying4 _), (trodAll_cons_mk (Below.trod laidK (by kernel_rfl) (of_decide_eq_true (by kernel_rfl)) h0 bel lt0) (trodAll_cons_mk (Below.trod laidK (by kernel_rfl) (of_decide_eq_true (by kernel_rfl)) h1 bel lt1) (trodAll_cons_mk (Below.trod laidK (by kernel_rfl) (of_decide_eq_true (by kernel_rfl)) h2 bel lt2) trodAll_mk0))), rfl, bel.frame _, fun h => by cases h⟩

theorem knapFits_k0 : Rows.knapFitsRow.wf (OpenSpec.ofChange Rows.knapFitsSpec) = true := by kernel_rfl
theorem knapFits_k3 : Try.f25.params.all (Try.prog.readableRec ·) = true := by kernel_rfl
theorem knapFits_k4 : namedTie Try.prog Rows.knapFitsRow.named Rows.knapFitsSpec.vars = true := by kernel_rfl
theorem knapFits_k5 : (Rows.knapFitsRow.stops == []) = true := by kernel_rfl
theorem knapFits_k7 : (Rows.knapFitsRow.knobs == []) = true := by kernel_rfl
theorem knapFits_k9 : (Rows.knapFitsRow.inPlace == Try.prog.inPlace 25) = true := by kernel_rfl
theorem knapFits_k10 : (Rows.knapFitsRow.unfollowed == Try.prog.unfollowed 25) = true := by kernel_rfl
theorem knapFits_k11 : (Rows.knapFitsRow.recurses == Try.prog.recurses 25) = true := by kernel_rfl
theorem knapFits_k12 : (Rows.knapFitsRow.named == Try.prog.varsNamed 25) = true := by kernel_rfl
theorem knapFits_k13 : (Rows.knapFitsRow.maps == (Try.f25.params.toList ++ Rows.knapFitsSpec.plain.varTypes Try.prog).any (Try.prog.mapsRec ·)) = true := by kernel_rfl
theorem knapFits_k14 : (Rows.knapFitsRow.ifaces == (Try.f25.params.toList ++ Rows.knapFitsSpec.plain.varTypes Try.prog).any (Try.prog.ifacesRec ·)) = true := by kernel_rfl
theorem knapFits_k15 : (Rows.knapFitsRow.mapsOut == Try.prog.mapsAmong Try.f25.resultTypes.toList) = true := by kernel_rfl
theorem knapFits_k16 : (Rows.knapFitsRow.loops == (Try.f25.params.toList ++ Rows.knapFitsSpec.plain.varTypes Try.prog).any (Try.prog.loopsFrom ·)) = true := by kernel_rfl
theorem knapFits_k17 : (Rows.knapFitsRow.wideKeys == (Try.f25.params.toList ++ Rows.knapFitsSpec.plain.varTypes Try.prog ++ Try.f25.resultTypes.toList).any (Try.prog.wideKeysFrom ·)) = true := by kernel_rfl
theorem knapFits_k18 : Rows.knapFitsSpec.vars.all (Try.prog.varReadable ·) = true := by kernel_rfl
theorem knapFits_k19 : Try.f25.resultTypes.all (fun t => Try.prog.readableRec t && decide (t < Try.prog.types.size)) = true := by kernel_rfl
theorem knapFits_k20 : (Rows.knapFitsRow.ifacesOut == Try.f25.resultTypes.toList.any (Try.prog.ifacesRec ·)) = true := by kernel_rfl
theorem knapFits_k21 : (Rows.knapFitsRow.loopsOut == Try.f25.resultTypes.toList.any (Try.prog.loopsFrom ·)) = true := by kernel_rfl
theorem knapFits_k22 : (Rows.knapFitsRow.plainKeys == Try.prog.plainKeys) = true := by rw [kp22]; rfl
theorem knapFits_k23 : Rows.knapFitsRow.shortTexts.isNone = true := by kernel_rfl
theorem knapFits_k26 : (Rows.knapFitsRow.lifted == Try.prog.liftsFinal) = true := by rw [kp26]; rfl
theorem knapFits_k27 : (Try.prog.make == some Rows.knapFitsRow.make) = true := by rw [kp27]; rfl
theorem knapFits_k28 : (Rows.knapFitsRow.kinds == (if Rows.knapFitsRow.domain.isEmpty then [] else Try.f25.params.toList.map fun t => match Try.prog.underlying t with | some (.int k) => some k | _ => none)) = true := by kernel_rfl
theorem knapFits_k29 : (Rows.knapFitsRow.pinned == Rows.knapFitsRow.pinnedBy) = true := by kernel_rfl
theorem knapFits_k30 : (Rows.knapFitsRow.veiled == (Try.f25.params.toList ++ Rows.knapFitsSpec.plain.varTypes Try.prog ++ Try.f25.resultTypes.toList).any (Try.prog.veiledRec ·)) = true := by kernel_rfl
theorem knapFits_k31 : Rows.knapFitsRow.veiledFits Try.prog Try.f25.params.toList (Try.f25.params.toList ++ Rows.knapFitsSpec.plain.varTypes Try.prog ++ Try.f25.resultTypes.toList) = true := by kernel_rfl
theorem knapFits_facts : joinedFacts Try.prog 25 Try.f25 Rows.knapFitsSpec Rows.knapFitsRow = true := (andK (andK (andK (andK (andK (andK (andK (andK (andK (andK (andK (andK (andK (andK (andK (andK (andK (andK (andK (andK (andK (andK (andK (andK (andK (andK (andK (andK (andK (andK (andK knapFits_k0 kp1) kp2) knapFits_k3) knapFits_k4) knapFits_k5) kp6) knapFits_k7) kp8) knapFits_k9) knapFits_k10) knapFits_k11) knapFits_k12) knapFits_k13) knapFits_k14) knapFits_k15) knapFits_k16) knapFits_k17) knapFits_k18) knapFits_k19) knapFits_k20) knapFits_k21) knapFits_k22) knapFits_k23) kp24) kp25) knapFits_k26) knapFits_k27) knapFits_k28) knapFits_k29) knapFits_k30) knapFits_k31)
theorem knapFits_n1 : Try.prog.funcNamed Rows.knapFitsRow.func = some 25 := by kernel_rfl
theorem knapFits_n3 : Try.f25.isInstance Try.prog Rows.knapFitsRow.origin Rows.knapFitsRow.targs := of_decide_eq_true (by kernel_rfl)
theorem knapFits_n4 : Try.f25.isWrapper Try.prog Rows.knapFitsRow.wrapper Rows.knapFitsRow.mainSum := by unfold Func.isWrapper; first | (rw [if_pos (by decide +kernel)]; kernel_rfl) | (rw [if_neg (by decide +kernel)]; exact ⟨rfl, rfl⟩)
theorem knapFits_holds : Rows.KnapFitsSaid :=
  OpenClaim.holds_of_wide 25 Try.f25 rfl rfl rfl rfl rfl rfl rfl ⟨rfl, rfl, rfl, rfl, rfl⟩ rfl rfl rfl rfl rfl knapFits_n1 Try.func25 knapFits_facts knapFits_n3 knapFits_n4
    (fun os started H enc _ => knapFits_lifted os started H enc)
#print axioms knapFits_holds
end Go.Proofs.Ytdhkdnmefeeclaa
