/- The rank of a matrix is that of it turned, and is full just if the determinant is not 0: the law LinRank is true of every input, and leaves it as it was; no conditions. -/
import Derived.WalkKit
import Derived.ProofKit
import Derived.OpenShut
import Derived.ShutString
import Derived.ChangeOld
import Derived.Below
import Derived.Test.YtdhkdnmefeeclaaK0
import Derived.Test.YtdhkdnmefeeclaaM3
import Derived.Test.YtdhkdnmefeeclaaS4
set_option linter.unusedSimpArgs false
set_option linter.unusedVariables false
set_option linter.unnecessarySimpa false
set_option linter.unusedVariables false
set_option maxRecDepth 100000
set_option maxHeartbeats 4000000
namespace Go.Proofs.Ytdhkdnmefeeclaa
open Go Go.Am Go.Proofs Go.RowKit Go.Off
open Go.ChangeShapes Go.WideShapes Go.ChangeAt
open Go.ChangeMaps (open_string shut_string)

set_option maxRecDepth 100000 in
theorem linRank_lifted (os : Os) (started : os.Started) (H : Type) (enc : TypeId × Value → H) :
    ReturnsInHanded {} Try.checked os 11 .any (Rows.linRankSpec.pre6 enc Try.prog Try.f11 Rows.linRankRow.domain false) (Rows.linRankSpec.post enc Try.prog Try.f11 false true false false) := by
  refine returnsInHanded_of_change (C := Try.checked) ownK started (by kernel_rfl) Try.func11
    (ChangeSpec.witness6 (enc := enc) (C := Try.checked) false ⟨#[], #[.slice none 0 0], []⟩ 8 (by kernel_rfl) (by kernel_rfl) (by kernel_rfl) (by kernel_rfl)) ?_
  intro W base args ds gs before hval0 hW hcnd _
  have hval : ∀ (j : Nat) t v, Try.f11.params[j]? = some t → args[j]? = some v → Value.okWide Try.prog W .any base t v := hval0
  have hW' := hW
  obtain ⟨p, q, hA0, hV, rfl, hfz, hnd⟩ := hW
  have hA : DataW.TrodAll enc Try.prog W 0 (fun _ => true) true Try.f11.params.toList args.toList ds p := hA0
  rw [Try.params11] at hA hval
  obtain ⟨v0, vs0, d0, ds0, p0, q0, hargs, rfl, rfl, h0, r0⟩ := trodAll_cons hA
  obtain ⟨rfl, rfl, rfl⟩ := trodAll_nil r0
  obtain rfl : args = #[v0] := by cases args; simp_all
  obtain ⟨rfl, rfl⟩ := trodVars_none hV
  obtain ⟨x0, l0, c0, rfl⟩ := okWide_slice Try.underlying65 (hval 0 65 v0 rfl rfl)
  have lt0 : ∀ x ∈ p0, x.block < W.heap.size := by obtain ⟨m, hm⟩ := h0; exact DataW.trod_lt m _ _ _ hm
  obtain ⟨y0, ⟨a0, b0, e0⟩, w0⟩ := avr_cell rd_mat h0 rfl
  cases e0
  clear hA0 hval0
  refine (law_calls (linRank_C a0 b0) (.cons w0 .nil)).mono fun e W' ⟨he, bel⟩ => ?_
  subst he
  exact ⟨_, rfl, _, _, _, [], _, [], hW', trodAll_mk1 (shut_bool Try.underlying4 _), (trodAll_cons_mk (Below.trod laidK (by kernel_rfl) (of_decide_eq_true (by kernel_rfl)) h0 bel lt0) trodAll_mk0), rfl, bel.frame _, fun h => by cases h⟩

theorem linRank_k0 : Rows.linRankRow.wf (OpenSpec.ofChange Rows.linRankSpec) = true := by kernel_rfl
theorem linRank_k3 : Try.f11.params.all (Try.prog.readableRec ·) = true := by kernel_rfl
theorem linRank_k4 : namedTie Try.prog Rows.linRankRow.named Rows.linRankSpec.vars = true := by kernel_rfl
theorem linRank_k5 : (Rows.linRankRow.stops == []) = true := by kernel_rfl
theorem linRank_k7 : (Rows.linRankRow.knobs == []) = true := by kernel_rfl
theorem linRank_k9 : (Rows.linRankRow.inPlace == Try.prog.inPlace 11) = true := by kernel_rfl
theorem linRank_k10 : (Rows.linRankRow.unfollowed == Try.prog.unfollowed 11) = true := by kernel_rfl
theorem linRank_k11 : (Rows.linRankRow.recurses == Try.prog.recurses 11) = true := by kernel_rfl
theorem linRank_k12 : (Rows.linRankRow.named == Try.prog.varsNamed 11) = true := by kernel_rfl
theorem linRank_k13 : (Rows.linRankRow.maps == (Try.f11.params.toList ++ Rows.linRankSpec.plain.varTypes Try.prog).any (Try.prog.mapsRec ·)) = true := by kernel_rfl
theorem linRank_k14 : (Rows.linRankRow.ifaces == (Try.f11.params.toList ++ Rows.linRankSpec.plain.varTypes Try.prog).any (Try.prog.ifacesRec ·)) = true := by kernel_rfl
theorem linRank_k15 : (Rows.linRankRow.mapsOut == Try.prog.mapsAmong Try.f11.resultTypes.toList) = true := by kernel_rfl
theorem linRank_k16 : (Rows.linRankRow.loops == (Try.f11.params.toList ++ Rows.linRankSpec.plain.varTypes Try.prog).any (Try.prog.loopsFrom ·)) = true := by kernel_rfl
theorem linRank_k17 : (Rows.linRankRow.wideKeys == (Try.f11.params.toList ++ Rows.linRankSpec.plain.varTypes Try.prog ++ Try.f11.resultTypes.toList).any (Try.prog.wideKeysFrom ·)) = true := by kernel_rfl
theorem linRank_k18 : Rows.linRankSpec.vars.all (Try.prog.varReadable ·) = true := by kernel_rfl
theorem linRank_k19 : Try.f11.resultTypes.all (fun t => Try.prog.readableRec t && decide (t < Try.prog.types.size)) = true := by kernel_rfl
theorem linRank_k20 : (Rows.linRankRow.ifacesOut == Try.f11.resultTypes.toList.any (Try.prog.ifacesRec ·)) = true := by kernel_rfl
theorem linRank_k21 : (Rows.linRankRow.loopsOut == Try.f11.resultTypes.toList.any (Try.prog.loopsFrom ·)) = true := by kernel_rfl
theorem linRank_k22 : (Rows.linRankRow.plainKeys == Try.prog.plainKeys) = true := by rw [kp22]; rfl
theorem linRank_k23 : Rows.linRankRow.shortTexts.isNone = true := by kernel_rfl
theorem linRank_k26 : (Rows.linRankRow.lifted == Try.prog.liftsFinal) = true := by rw [kp26]; rfl
theorem linRank_k27 : (Try.prog.make == some Rows.linRankRow.make) = true := by rw [kp27]; rfl
theorem linRank_k28 : (Rows.linRankRow.kinds == (if Rows.linRankRow.domain.isEmpty then [] else Try.f11.params.toList.map fun t => match Try.prog.underlying t with | some (.int k) => some k | _ => none)) = true := by kernel_rfl
theorem linRank_k29 : (Rows.linRankRow.pinned == Rows.linRankRow.pinnedBy) = true := by kernel_rfl
theorem linRank_k30 : (Rows.linRankRow.veiled == (Try.f11.params.toList ++ Rows.linRankSpec.plain.varTypes Try.prog ++ Try.f11.resultTypes.toList).any (Try.prog.veiledRec ·)) = true := by kernel_rfl
theorem linRank_k31 : Rows.linRankRow.veiledFits Try.prog Try.f11.params.toList (Try.f11.params.toList ++ Rows.linRankSpec.plain.varTypes Try.prog ++ Try.f11.resultTypes.toList) = true := by kernel_rfl
theorem linRank_facts : joinedFacts Try.prog 11 Try.f11 Rows.linRankSpec Rows.linRankRow = true := (andK (andK (andK (andK (andK (andK (andK (andK (andK (andK (andK (andK (andK (andK (andK (andK (andK (andK (andK (andK (andK (andK (andK (andK (andK (andK (andK (andK (andK (andK (andK linRank_k0 kp1) kp2) linRank_k3) linRank_k4) linRank_k5) kp6) linRank_k7) kp8) linRank_k9) linRank_k10) linRank_k11) linRank_k12) linRank_k13) linRank_k14) linRank_k15) linRank_k16) linRank_k17) linRank_k18) linRank_k19) linRank_k20) linRank_k21) linRank_k22) linRank_k23) kp24) kp25) linRank_k26) linRank_k27) linRank_k28) linRank_k29) linRank_k30) linRank_k31)
theorem linRank_n1 : Try.prog.funcNamed Rows.linRankRow.func = some 11 := by kernel_rfl
theorem linRank_n3 : Try.f11.isInstance Try.prog Rows.linRankRow.origin Rows.linRankRow.targs := of_decide_eq_true (by kernel_rfl)
theorem linRank_n4 : Try.f11.isWrapper Try.prog Rows.linRankRow.wrapper Rows.linRankRow.mainSum := by unfold Func.isWrapper; first | (rw [if_pos (by decide +kernel)]; kernel_rfl) | (rw [if_neg (by decide +kernel)]; exact ⟨rfl, rfl⟩)
theorem linRank_holds : Rows.LinRankSaid :=
  OpenClaim.holds_of_wide 11 Try.f11 rfl rfl rfl rfl rfl rfl rfl ⟨rfl, rfl, rfl, rfl, rfl⟩ rfl rfl rfl rfl rfl linRank_n1 Try.func11 linRank_facts linRank_n3 linRank_n4
    (fun os started H enc _ => linRank_lifted os started H enc)
#print axioms linRank_holds
end Go.Proofs.Ytdhkdnmefeeclaa
