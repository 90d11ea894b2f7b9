/- Whether numbers fit any small problem is what its rows say: the law ShapeFits is true of every input, and leaves it as it was; no conditions. -/
import Derived.WalkKit
import Derived.ProofKit
import Derived.OpenShut
import Derived.ShutString
import Derived.ChangeOld
import Derived.Below
import Derived.Test.YtdhkdnmefeeclaaK0
import Derived.Test.YtdhkdnmefeeclaaX1
import Derived.Test.YtdhkdnmefeeclaaX4b
set_option linter.unusedSimpArgs false
set_option linter.unusedVariables false
set_option linter.unnecessarySimpa false
set_option linter.unusedVariables false
set_option maxRecDepth 100000
set_option maxHeartbeats 4000000
namespace Go.Proofs.Ytdhkdnmefeeclaa
open Go Go.Am Go.Proofs Go.RowKit Go.Off
open Go.ChangeShapes Go.WideShapes Go.ChangeAt
open Go.ChangeMaps (open_string shut_string)

set_option maxRecDepth 100000 in
theorem shapeFits_lifted (os : Os) (started : os.Started) (H : Type) (enc : TypeId × Value → H) :
    ReturnsInHanded {} Try.checked os 14 .any (Rows.shapeFitsSpec.pre6 enc Try.prog Try.f14 Rows.shapeFitsRow.domain false) (Rows.shapeFitsSpec.post enc Try.prog Try.f14 false true false false) := by
  refine returnsInHanded_of_change (C := Try.checked) ownK started (by kernel_rfl) Try.func14
    (ChangeSpec.witness6 (enc := enc) (C := Try.checked) false ⟨#[], #[.agg #[.slice none 0 0, .slice none 0 0, .slice none 0 0], .slice none 0 0], []⟩ 8 (by kernel_rfl) (by kernel_rfl) (by kernel_rfl) (by kernel_rfl)) ?_
  intro W base args ds gs before hval0 hW hcnd _
  have hval : ∀ (j : Nat) t v, Try.f14.params[j]? = some t → args[j]? = some v → Value.okWide Try.prog W .any base t v := hval0
  have hW' := hW
  obtain ⟨p, q, hA0, hV, rfl, hfz, hnd⟩ := hW
  have hA : DataW.TrodAll enc Try.prog W 0 (fun _ => true) true Try.f14.params.toList args.toList ds p := hA0
  rw [Try.params14] at hA hval
  obtain ⟨v0, vs0, d0, ds0, p0, q0, hargs, rfl, rfl, h0, r0⟩ := trodAll_cons hA
  obtain ⟨v1, vs1, d1, ds1, p1, q1, rfl, rfl, rfl, h1, r1⟩ := trodAll_cons r0
  obtain ⟨rfl, rfl, rfl⟩ := trodAll_nil r1
  obtain rfl : args = #[v0, v1] := by cases args; simp_all
  obtain ⟨rfl, rfl⟩ := trodVars_none hV
  obtain ⟨cs0, rfl⟩ : ∃ cs, v0 = .agg cs := by
    have h := hval 0 86 v0 rfl rfl
    unfold Value.okWide at h
    rw [Try.underlying86] at h
    exact h.imp fun cs hc => hc.1
  have lt0 : ∀ x ∈ p0, x.block < W.heap.size := by obtain ⟨m, hm⟩ := h0; exact DataW.trod_lt m _ _ _ hm
  obtain ⟨x1, l1, c1, rfl⟩ := okWide_slice Try.underlying22 (hval 1 22 v1 rfl rfl)
  have lt1 : ∀ x ∈ p1, x.block < W.heap.size := by obtain ⟨m, hm⟩ := h1; exact DataW.trod_lt m _ _ _ hm
  obtain ⟨y0, ⟨a0, e0⟩, w0⟩ := avr_agg rd_problem h0
  obtain ⟨y1, ⟨a1, e1⟩, w1⟩ := avr_cell rd_vec h1 rfl
  subst e0
  cases e1
  clear hA0 hval0
  refine (law_calls (shapeFits_C a0 a1) (.cons w0 (.cons w1 .nil))).mono fun e W' ⟨he, bel⟩ => ?_
  subst he
  exact ⟨_, rfl, _, _, _, [], _, [], hW', trodAll_mk1 (shut_bool Try.underlying4 _), (trodAll_cons_mk (Below.trod laidK (by kernel_rfl) (of_decide_eq_true (by kernel_rfl)) h0 bel lt0) (trodAll_cons_mk (Below.trod laidK (by kernel_rfl) (of_decide_eq_true (by kernel_rfl)) h1 bel lt1) trodAll_mk0)), rfl, bel.frame _, fun h => by cases h⟩

theorem shapeFits_k0 : Rows.shapeFitsRow.wf (OpenSpec.ofChange Rows.shapeFitsSpec) = true := by kernel_rfl
theorem shapeFits_k3 : Try.f14.params.all (Try.prog.readableRec ·) = true := by kernel_rfl
theorem shapeFits_k4 : namedTie Try.prog Rows.shapeFitsRow.named Rows.shapeFitsSpec.vars = true := by kernel_rfl
theorem shapeFits_k5 : (Rows.shapeFitsRow.stops == []) = true := by kernel_rfl
theorem shapeFits_k7 : (Rows.shapeFitsRow.knobs == []) = true := by kernel_rfl
theorem shapeFits_k9 : (Rows.shapeFitsRow.inPlace == Try.prog.inPlace 14) = true := by kernel_rfl
theorem shapeFits_k10 : (Rows.shapeFitsRow.unfollowed == Try.prog.unfollowed 14) = true := by kernel_rfl
theorem shapeFits_k11 : (Rows.shapeFitsRow.recurses == Try.prog.recurses 14) = true := by kernel_rfl
theorem shapeFits_k12 : (Rows.shapeFitsRow.named == Try.prog.varsNamed 14) = true := by kernel_rfl
theorem shapeFits_k13 : (Rows.shapeFitsRow.maps == (Try.f14.params.toList ++ Rows.shapeFitsSpec.plain.varTypes Try.prog).any (Try.prog.mapsRec ·)) = true := by kernel_rfl
theorem shapeFits_k14 : (Rows.shapeFitsRow.ifaces == (Try.f14.params.toList ++ Rows.shapeFitsSpec.plain.varTypes Try.prog).any (Try.prog.ifacesRec ·)) = true := by kernel_rfl
theorem shapeFits_k15 : (Rows.shapeFitsRow.mapsOut == Try.prog.mapsAmong Try.f14.resultTypes.toList) = true := by kernel_rfl
theorem shapeFits_k16 : (Rows.shapeFitsRow.loops == (Try.f14.params.toList ++ Rows.shapeFitsSpec.plain.varTypes Try.prog).any (Try.prog.loopsFrom ·)) = true := by kernel_rfl
theorem shapeFits_k17 : (Rows.shapeFitsRow.wideKeys == (Try.f14.params.toList ++ Rows.shapeFitsSpec.plain.varTypes Try.prog ++ Try.f14.resultTypes.toList).any (Try.prog.wideKeysFrom ·)) = true := by kernel_rfl
theorem shapeFits_k18 : Rows.shapeFitsSpec.vars.all (Try.prog.varReadable ·) = true := by kernel_rfl
theorem shapeFits_k19 : Try.f14.resultTypes.all (fun t => Try.prog.readableRec t && decide (t < Try.prog.types.size)) = true := by kernel_rfl
theorem shapeFits_k20 : (Rows.shapeFitsRow.ifacesOut == Try.f14.resultTypes.toList.any (Try.prog.ifacesRec ·)) = true := by kernel_rfl
theorem shapeFits_k21 : (Rows.shapeFitsRow.loopsOut == Try.f14.resultTypes.toList.any (Try.prog.loopsFrom ·)) = true := by kernel_rfl
theorem shapeFits_k22 : (Rows.shapeFitsRow.plainKeys == Try.prog.plainKeys) = true := by rw [kp22]; rfl
theorem shapeFits_k23 : Rows.shapeFitsRow.shortTexts.isNone = true := by kernel_rfl
theorem shapeFits_k26 : (Rows.shapeFitsRow.lifted == Try.prog.liftsFinal) = true := by rw [kp26]; rfl
theorem shapeFits_k27 : (Try.prog.make == some Rows.shapeFitsRow.make) = true := by rw [kp27]; rfl
theorem shapeFits_k28 : (Rows.shapeFitsRow.kinds == (if Rows.shapeFitsRow.domain.isEmpty then [] else Try.f14.params.toList.map fun t => match Try.prog.underlying t with | some (.int k) => some k | _ => none)) = true := by kernel_rfl
theorem shapeFits_k29 : (Rows.shapeFitsRow.pinned == Rows.shapeFitsRow.pinnedBy) = true := by kernel_rfl
theorem shapeFits_k30 : (Rows.shapeFitsRow.veiled == (Try.f14.params.toList ++ Rows.shapeFitsSpec.plain.varTypes Try.prog ++ Try.f14.resultTypes.toList).any (Try.prog.veiledRec ·)) = true := by kernel_rfl
theorem shapeFits_k31 : Rows.shapeFitsRow.veiledFits Try.prog Try.f14.params.toList (Try.f14.params.toList ++ Rows.shapeFitsSpec.plain.varTypes Try.prog ++ Try.f14.resultTypes.toList) = true := by kernel_rfl
theorem shapeFits_facts : joinedFacts Try.prog 14 Try.f14 Rows.shapeFitsSpec Rows.shapeFitsRow = true := (andK (andK (andK (andK (andK (andK (andK (andK (andK (andK (andK (andK (andK (andK (andK (andK (andK (andK (andK (andK (andK (andK (andK (andK (andK (andK (andK (andK (andK (andK (andK shapeFits_k0 kp1) kp2) shapeFits_k3) shapeFits_k4) shapeFits_k5) kp6) shapeFits_k7) kp8) shapeFits_k9) shapeFits_k10) shapeFits_k11) shapeFits_k12) shapeFits_k13) shapeFits_k14) shapeFits_k15) shapeFits_k16) shapeFits_k17) shapeFits_k18) shapeFits_k19) shapeFits_k20) shapeFits_k21) shapeFits_k22) shapeFits_k23) kp24) kp25) shapeFits_k26) shapeFits_k27) shapeFits_k28) shapeFits_k29) shapeFits_k30) shapeFits_k31)
theorem shapeFits_n1 : Try.prog.funcNamed Rows.shapeFitsRow.func = some 14 := by kernel_rfl
theorem shapeFits_n3 : Try.f14.isInstance Try.prog Rows.shapeFitsRow.origin Rows.shapeFitsRow.targs := of_decide_eq_true (by kernel_rfl)
theorem shapeFits_n4 : Try.f14.isWrapper Try.prog Rows.shapeFitsRow.wrapper Rows.shapeFitsRow.mainSum := by unfold Func.isWrapper; first | (rw [if_pos (by decide +kernel)]; kernel_rfl) | (rw [if_neg (by decide +kernel)]; exact ⟨rfl, rfl⟩)
theorem shapeFits_holds : Rows.ShapeFitsSaid :=
  OpenClaim.holds_of_wide 14 Try.f14 rfl rfl rfl rfl rfl rfl rfl ⟨rfl, rfl, rfl, rfl, rfl⟩ rfl rfl rfl rfl rfl shapeFits_n1 Try.func14 shapeFits_facts shapeFits_n3 shapeFits_n4
    (fun os started H enc _ => shapeFits_lifted os started H enc)
#print axioms shapeFits_holds
end Go.Proofs.Ytdhkdnmefeeclaa
