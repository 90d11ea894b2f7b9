/- What is turned twice is itself, and a row applied from the left is the turned matrix applied to it: the law LinTurns is true of every input, and leaves it as it was; no conditions. -/
import Derived.WalkKit
import Derived.ProofKit
import Derived.OpenShut
import Derived.ShutString
import Derived.ChangeOld
import Derived.Below
import Derived.Test.YtdhkdnmefeeclaaK0
import Derived.Test.YtdhkdnmefeeclaaM3
import Derived.Test.YtdhkdnmefeeclaaS1
set_option linter.unusedSimpArgs false
set_option linter.unusedVariables false
set_option linter.unnecessarySimpa false
set_option linter.unusedVariables false
set_option maxRecDepth 100000
set_option maxHeartbeats 4000000
namespace Go.Proofs.Ytdhkdnmefeeclaa
open Go Go.Am Go.Proofs Go.RowKit Go.Off
open Go.ChangeShapes Go.WideShapes Go.ChangeAt
open Go.ChangeMaps (open_string shut_string)

set_option maxRecDepth 100000 in
theorem linTurns_lifted (os : Os) (started : os.Started) (H : Type) (enc : TypeId × Value → H) :
    ReturnsInHanded {} Try.checked os 13 .any (Rows.linTurnsSpec.pre6 enc Try.prog Try.f13 Rows.linTurnsRow.domain false) (Rows.linTurnsSpec.post enc Try.prog Try.f13 false true false false) := by
  refine returnsInHanded_of_change (C := Try.checked) ownK started (by kernel_rfl) Try.func13
    (ChangeSpec.witness6 (enc := enc) (C := Try.checked) false ⟨#[], #[.slice none 0 0, .slice none 0 0, .slice none 0 0], []⟩ 8 (by kernel_rfl) (by kernel_rfl) (by kernel_rfl) (by kernel_rfl)) ?_
  intro W base args ds gs before hval0 hW hcnd _
  have hval : ∀ (j : Nat) t v, Try.f13.params[j]? = some t → args[j]? = some v → Value.okWide Try.prog W .any base t v := hval0
  have hW' := hW
  obtain ⟨p, q, hA0, hV, rfl, hfz, hnd⟩ := hW
  have hA : DataW.TrodAll enc Try.prog W 0 (fun _ => true) true Try.f13.params.toList args.toList ds p := hA0
  rw [Try.params13] at hA hval
  obtain ⟨v0, vs0, d0, ds0, p0, q0, hargs, rfl, rfl, h0, r0⟩ := trodAll_cons hA
  obtain ⟨v1, vs1, d1, ds1, p1, q1, rfl, rfl, rfl, h1, r1⟩ := trodAll_cons r0
  obtain ⟨v2, vs2, d2, ds2, p2, q2, rfl, rfl, rfl, h2, r2⟩ := trodAll_cons r1
  obtain ⟨rfl, rfl, rfl⟩ := trodAll_nil r2
  obtain rfl : args = #[v0, v1, v2] := by cases args; simp_all
  obtain ⟨rfl, rfl⟩ := trodVars_none hV
  obtain ⟨x0, l0, c0, rfl⟩ := okWide_slice Try.underlying65 (hval 0 65 v0 rfl rfl)
  have lt0 : ∀ x ∈ p0, x.block < W.heap.size := by obtain ⟨m, hm⟩ := h0; exact DataW.trod_lt m _ _ _ hm
  obtain ⟨x1, l1, c1, rfl⟩ := okWide_slice Try.underlying22 (hval 1 22 v1 rfl rfl)
  have lt1 : ∀ x ∈ p1, x.block < W.heap.size := by obtain ⟨m, hm⟩ := h1; exact DataW.trod_lt m _ _ _ hm
  obtain ⟨x2, l2, c2, rfl⟩ := okWide_slice Try.underlying22 (hval 2 22 v2 rfl rfl)
  have lt2 : ∀ x ∈ p2, x.block < W.heap.size := by obtain ⟨m, hm⟩ := h2; exact DataW.trod_lt m _ _ _ hm
  obtain ⟨y0, ⟨a0, b0, e0⟩, w0⟩ := avr_cell rd_mat h0 rfl
  obtain ⟨y1, ⟨a1, e1⟩, w1⟩ := avr_cell rd_vec h1 rfl
  obtain ⟨y2, ⟨a2, e2⟩, w2⟩ := avr_cell rd_vec h2 rfl
  cases e0
  cases e1
  cases e2
  clear hA0 hval0
  refine (law_calls (linTurns_C a0 a1 a2 b0) (.cons w0 (.cons w1 (.cons w2 .nil)))).mono fun e W' ⟨he, bel⟩ => ?_
  subst he
  exact ⟨_, rfl, _, _, _, [], _, [], hW', trodAll_mk1 (shut_bool Try.underlying4 _), (trodAll_cons_mk (Below.trod laidK (by kernel_rfl) (of_decide_eq_true (by kernel_rfl)) h0 bel lt0) (trodAll_cons_mk (Below.trod laidK (by kernel_rfl) (of_decide_eq_true (by kernel_rfl)) h1 bel lt1) (trodAll_cons_mk (Below.trod laidK (by kernel_rfl) (of_decide_eq_true (by kernel_rfl)) h2 bel lt2) trodAll_mk0))), rfl, bel.frame _, fun h => by cases h⟩

theorem linTurns_k0 : Rows.linTurnsRow.wf (OpenSpec.ofChange Rows.linTurnsSpec) = true := by kernel_rfl
theorem linTurns_k3 : Try.f13.params.all (Try.prog.readableRec ·) = true := by kernel_rfl
theorem linTurns_k4 : namedTie Try.prog Rows.linTurnsRow.named Rows.linTurnsSpec.vars = true := by kernel_rfl
theorem linTurns_k5 : (Rows.linTurnsRow.stops == []) = true := by kernel_rfl
theorem linTurns_k7 : (Rows.linTurnsRow.knobs == []) = true := by kernel_rfl
theorem linTurns_k9 : (Rows.linTurnsRow.inPlace == Try.prog.inPlace 13) = true := by kernel_rfl
theorem linTurns_k10 : (Rows.linTurnsRow.unfollowed == Try.prog.unfollowed 13) = true := by kernel_rfl
theorem linTurns_k11 : (Rows.linTurnsRow.recurses == Try.prog.recurses 13) = true := by kernel_rfl
theorem linTurns_k12 : (Rows.linTurnsRow.named == Try.prog.varsNamed 13) = true := by kernel_rfl
theorem linTurns_k13 : (Rows.linTurnsRow.maps == (Try.f13.params.toList ++ Rows.linTurnsSpec.plain.varTypes Try.prog).any (Try.prog.mapsRec ·)) = true := by kernel_rfl
theorem linTurns_k14 : (Rows.linTurnsRow.ifaces == (Try.f13.params.toList ++ Rows.linTurnsSpec.plain.varTypes Try.prog).any (Try.prog.ifacesRec ·)) = true := by kernel_rfl
theorem linTurns_k15 : (Rows.linTurnsRow.mapsOut == Try.prog.mapsAmong Try.f13.resultTypes.toList) = true := by kernel_rfl
theorem linTurns_k16 : (Rows.linTurnsRow.loops == (Try.f13.params.toList ++ Rows.linTurnsSpec.plain.varTypes Try.prog).any (Try.prog.loopsFrom ·)) = true := by kernel_rfl
theorem linTurns_k17 : (Rows.linTurnsRow.wideKeys == (Try.f13.params.toList ++ Rows.linTurnsSpec.plain.varTypes Try.prog ++ Try.f13.resultTypes.toList).any (Try.prog.wideKeysFrom ·)) = true := by kernel_rfl
theorem linTurns_k18 : Rows.linTurnsSpec.vars.all (Try.prog.varReadable ·) = true := by kernel_rfl
theorem linTurns_k19 : Try.f13.resultTypes.all (fun t => Try.prog.readableRec t && decide (t < Try.prog.types.size)) = true := by kernel_rfl
theorem linTurns_k20 : (Rows.linTurnsRow.ifacesOut == Try.f13.resultTypes.toList.any (Try.prog.ifacesRec ·)) = true := by kernel_rfl
theorem linTurns_k21 : (Rows.linTurnsRow.loopsOut == Try.f13.resultTypes.toList.any (Try.prog.loopsFrom ·)) = true := by kernel_rfl
theorem linTurns_k22 : (Rows.linTurnsRow.plainKeys == Try.prog.plainKeys) = true := by rw [kp22]; rfl
theorem linTurns_k23 : Rows.linTurnsRow.shortTexts.isNone = true := by kernel_rfl
theorem linTurns_k26 : (Rows.linTurnsRow.lifted == Try.prog.liftsFinal) = true := by rw [kp26]; rfl
theorem linTurns_k27 : (Try.prog.make == some Rows.linTurnsRow.make) = true := by rw [kp27]; rfl
theorem linTurns_k28 : (Rows.linTurnsRow.kinds == (if Rows.linTurnsRow.domain.isEmpty then [] else Try.f13.params.toList.map fun t => match Try.prog.underlying t with | some (.int k) => some k | _ => none)) = true := by kernel_rfl
theorem linTurns_k29 : (Rows.linTurnsRow.pinned == Rows.linTurnsRow.pinnedBy) = true := by kernel_rfl
theorem linTurns_k30 : (Rows.linTurnsRow.veiled == (Try.f13.params.toList ++ Rows.linTurnsSpec.plain.varTypes Try.prog ++ Try.f13.resultTypes.toList).any (Try.prog.veiledRec ·)) = true := by kernel_rfl
theorem linTurns_k31 : Rows.linTurnsRow.veiledFits Try.prog Try.f13.params.toList (Try.f13.params.toList ++ Rows.linTurnsSpec.plain.varTypes Try.prog ++ Try.f13.resultTypes.toList) = true := by kernel_rfl
theorem linTurns_facts : joinedFacts Try.prog 13 Try.f13 Rows.linTurnsSpec Rows.linTurnsRow = true := (andK (andK (andK (andK (andK (andK (andK (andK (andK (andK (andK (andK (andK (andK (andK (andK (andK (andK (andK (andK (andK (andK (andK (andK (andK (andK (andK (andK (andK (andK (andK linTurns_k0 kp1) kp2) linTurns_k3) linTurns_k4) linTurns_k5) kp6) linTurns_k7) kp8) linTurns_k9) linTurns_k10) linTurns_k11) linTurns_k12) linTurns_k13) linTurns_k14) linTurns_k15) linTurns_k16) linTurns_k17) linTurns_k18) linTurns_k19) linTurns_k20) linTurns_k21) linTurns_k22) linTurns_k23) kp24) kp25) linTurns_k26) linTurns_k27) linTurns_k28) linTurns_k29) linTurns_k30) linTurns_k31)
theorem linTurns_n1 : Try.prog.funcNamed Rows.linTurnsRow.func = some 13 := by kernel_rfl
theorem linTurns_n3 : Try.f13.isInstance Try.prog Rows.linTurnsRow.origin Rows.linTurnsRow.targs := of_decide_eq_true (by kernel_rfl)
theorem linTurns_n4 : Try.f13.isWrapper Try.prog Rows.linTurnsRow.wrapper Rows.linTurnsRow.mainSum := by unfold Func.isWrapper; first | (rw [if_pos (by decide +kernel)]; kernel_rfl) | (rw [if_neg (by decide +kernel)]; exact ⟨rfl, rfl⟩)
theorem linTurns_holds : Rows.LinTurnsSaid :=
  OpenClaim.holds_of_wide 13 Try.f13 rfl rfl rfl rfl rfl rfl rfl ⟨rfl, rfl, rfl, rfl, rfl⟩ rfl rfl rfl rfl rfl linTurns_n1 Try.func13 linTurns_facts linTurns_n3 linTurns_n4
    (fun os started H enc _ => linTurns_lifted os started H enc)
#print axioms linTurns_holds
end Go.Proofs.Ytdhkdnmefeeclaa
