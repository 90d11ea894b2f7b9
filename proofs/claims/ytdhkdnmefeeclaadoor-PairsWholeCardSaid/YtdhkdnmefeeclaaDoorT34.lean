/- The law PairsWhole is true of every input; no conditions. -/
import Derived.Test.YtdhkdnmefeeclaaDoorTie
import Derived.Test.YtdhkdnmefeeclaaDoorCards
import Derived.SevenTiedAt
import Derived.WalkKit
import Derived.ProofKit
import Derived.OpenShut
import Derived.ShutString
import Derived.ChangeOld
import Derived.Below
import Derived.Test.YtdhkdnmefeeclaaDoorE19
import Derived.Test.YtdhkdnmefeeclaaDoorK0
import Derived.Test.YtdhkdnmefeeclaaDoorKWH
set_option linter.unusedSimpArgs false
set_option linter.unusedVariables false
set_option linter.unnecessarySimpa false
set_option linter.unusedVariables false
set_option maxRecDepth 100000
set_option maxHeartbeats 4000000
namespace Go.Proofs.YtdhkdnmefeeclaaDoor
open Go Go.Am Go.Proofs Go.RowKit Go.Off
open Go.ChangeShapes Go.WideShapes Go.ChangeAt
open Go.ChangeMaps (open_string shut_string)

set_option maxRecDepth 100000 in
theorem pairsWhole_lifted (os : Os) (started : os.Started) (H : Type) (enc : TypeId × Value → H) :
    ReturnsInHanded {} Tryd.checked os 4 .any (fun w args => (Rows.pairsWholeSpec.pre enc Tryd.prog Tryd.f4 Rows.pairsWholeRow.domain false w args ∧ laidMetH Tryd.prog laidD w) ∧ sizedMet enc Tryd.prog Tryd.f4 (OpenSpec.ofChange Rows.pairsWholeSpec) false w args) (Rows.pairsWholeSpec.post enc Tryd.prog Tryd.f4 false true false false) := by
  refine returnsInHanded_of_change_and (C := Tryd.checked) (X := fun w _ => laidMetH Tryd.prog laidD w) (fun _ _ _ hh h => h.of_heap hh) ownK started (by kernel_rfl) Tryd.func4
    (ChangeSpec.witness_shaped (enc := enc) (C := Tryd.checked) (os := os) (X := fun w _ => laidMetH Tryd.prog laidD w) false (World.laidAll Tryd.prog os laidD) #[.slice none 0 0] 8 (World.laidAll_os _ _ _)
      (World.shaped_of_ZipB (by kernel_rfl) (by kernel_rfl)) (by kernel_rfl) (by kernel_rfl) (by kernel_rfl) (witD os _)) ?_
  intro W base args ds gs before hval0 hW hcnd _ hL _
  have hval : ∀ (j : Nat) t v, Tryd.f4.params[j]? = some t → args[j]? = some v → Value.okWide Tryd.prog W .any base t v := hval0
  have hW' := hW
  obtain ⟨p, q, hA0, hV, rfl, hfz, hnd⟩ := hW
  have hA : DataW.TrodAll enc Tryd.prog W 0 (fun _ => true) true Tryd.f4.params.toList args.toList ds p := hA0
  rw [Tryd.params4] at hA hval
  obtain ⟨v0, vs0, d0, ds0, p0, q0, hargs, rfl, rfl, h0, r0⟩ := trodAll_cons hA
  obtain ⟨rfl, rfl, rfl⟩ := trodAll_nil r0
  obtain rfl : args = #[v0] := by cases args; simp_all
  obtain ⟨rfl, rfl⟩ := trodVars_none hV
  obtain ⟨x0, l0, c0, rfl⟩ := okWide_slice Tryd.underlying22 (hval 0 22 v0 rfl rfl)
  have lt0 : ∀ x ∈ p0, x.block < W.heap.size := by obtain ⟨m, hm⟩ := h0; exact DataW.trod_lt m _ _ _ hm
  obtain ⟨y0, ⟨a0, b0, e0⟩, w0⟩ := avr_cell rd_parts h0 rfl
  cases e0
  clear hA0 hval0
  refine (law_calls (pairsWhole_C a0 (fun p hp => (b0 p hp).2)) (laidD_tab hL) (.cons w0 .nil)).mono fun e W' ⟨he, bel⟩ => ?_
  subst he
  exact ⟨_, rfl, _, _, _, [], _, [], hW', trodAll_mk1 (shut_bool Tryd.underlying4 _), (trodAll_cons_mk (Below.trod laidK (by kernel_rfl) (of_decide_eq_true (by kernel_rfl)) h0 bel lt0) trodAll_mk0), rfl, bel.frame _, fun h => by cases h⟩

theorem pairsWhole_k0 : Rows.pairsWholeRow.wf (OpenSpec.ofChange Rows.pairsWholeSpec) = true := by kernel_rfl
theorem pairsWhole_k3 : Tryd.f4.params.all (Tryd.prog.readableRec ·) = true := by kernel_rfl
theorem pairsWhole_k4 : namedTie Tryd.prog Rows.pairsWholeRow.named Rows.pairsWholeSpec.vars = true := by kernel_rfl
theorem pairsWhole_k5 : (Rows.pairsWholeRow.stops == []) = true := by kernel_rfl
theorem pairsWhole_k7 : (Rows.pairsWholeRow.knobs == []) = true := by kernel_rfl
theorem pairsWhole_k9 : (Rows.pairsWholeRow.inPlace == Tryd.prog.inPlace 4) = true := by kernel_rfl
theorem pairsWhole_k10 : (Rows.pairsWholeRow.unfollowed == Tryd.prog.unfollowed 4) = true := by kernel_rfl
theorem pairsWhole_k11 : (Rows.pairsWholeRow.recurses == Tryd.prog.recurses 4) = true := by kernel_rfl
theorem pairsWhole_k12 : (Rows.pairsWholeRow.named == Tryd.prog.varsNamed 4) = true := by kernel_rfl
theorem pairsWhole_k13 : (Rows.pairsWholeRow.maps == (Tryd.f4.params.toList ++ Rows.pairsWholeSpec.plain.varTypes Tryd.prog).any (Tryd.prog.mapsRec ·)) = true := by kernel_rfl
theorem pairsWhole_k14 : (Rows.pairsWholeRow.ifaces == (Tryd.f4.params.toList ++ Rows.pairsWholeSpec.plain.varTypes Tryd.prog).any (Tryd.prog.ifacesRec ·)) = true := by kernel_rfl
theorem pairsWhole_k15 : (Rows.pairsWholeRow.mapsOut == Tryd.prog.mapsAmong Tryd.f4.resultTypes.toList) = true := by kernel_rfl
theorem pairsWhole_k16 : (Rows.pairsWholeRow.loops == (Tryd.f4.params.toList ++ Rows.pairsWholeSpec.plain.varTypes Tryd.prog).any (Tryd.prog.loopsFrom ·)) = true := by kernel_rfl
theorem pairsWhole_k17 : (Rows.pairsWholeRow.wideKeys == (Tryd.f4.params.toList ++ Rows.pairsWholeSpec.plain.varTypes Tryd.prog ++ Tryd.f4.resultTypes.toList).any (Tryd.prog.wideKeysFrom ·)) = true := by kernel_rfl
theorem pairsWhole_k18 : Rows.pairsWholeSpec.vars.all (Tryd.prog.varReadable ·) = true := by kernel_rfl
theorem pairsWhole_k19 : Tryd.f4.resultTypes.all (fun t => Tryd.prog.readableRec t && decide (t < Tryd.prog.types.size)) = true := by kernel_rfl
theorem pairsWhole_k20 : (Rows.pairsWholeRow.ifacesOut == Tryd.f4.resultTypes.toList.any (Tryd.prog.ifacesRec ·)) = true := by kernel_rfl
theorem pairsWhole_k21 : (Rows.pairsWholeRow.loopsOut == Tryd.f4.resultTypes.toList.any (Tryd.prog.loopsFrom ·)) = true := by kernel_rfl
theorem pairsWhole_k22 : (Rows.pairsWholeRow.plainKeys == Tryd.prog.plainKeys) = true := by rw [kp22]; rfl
theorem pairsWhole_k23 : Rows.pairsWholeRow.shortTexts.isNone = true := by kernel_rfl
theorem pairsWhole_k26 : (Rows.pairsWholeRow.lifted == Tryd.prog.liftsFinal) = true := by rw [kp26]; rfl
theorem pairsWhole_k27 : (Tryd.prog.make == some Rows.pairsWholeRow.make) = true := by rw [kp27]; rfl
theorem pairsWhole_k28 : (Rows.pairsWholeRow.kinds == (if Rows.pairsWholeRow.domain.isEmpty then [] else Tryd.f4.params.toList.map fun t => match Tryd.prog.underlying t with | some (.int k) => some k | _ => none)) = true := by kernel_rfl
theorem pairsWhole_k29 : (Rows.pairsWholeRow.pinned == Rows.pairsWholeRow.pinnedBy) = true := by kernel_rfl
theorem pairsWhole_k30 : (Rows.pairsWholeRow.veiled == (Tryd.f4.params.toList ++ Rows.pairsWholeSpec.plain.varTypes Tryd.prog ++ Tryd.f4.resultTypes.toList).any (Tryd.prog.veiledRec ·)) = true := by kernel_rfl
theorem pairsWhole_k31 : Rows.pairsWholeRow.veiledFits Tryd.prog Tryd.f4.params.toList (Tryd.f4.params.toList ++ Rows.pairsWholeSpec.plain.varTypes Tryd.prog ++ Tryd.f4.resultTypes.toList) = true := by kernel_rfl
theorem pairsWhole_facts : joinedFacts Tryd.prog 4 Tryd.f4 Rows.pairsWholeSpec Rows.pairsWholeRow = true := (andK (andK (andK (andK (andK (andK (andK (andK (andK (andK (andK (andK (andK (andK (andK (andK (andK (andK (andK (andK (andK (andK (andK (andK (andK (andK (andK (andK (andK (andK (andK pairsWhole_k0 kp1) kp2) pairsWhole_k3) pairsWhole_k4) pairsWhole_k5) kp6) pairsWhole_k7) kp8) pairsWhole_k9) pairsWhole_k10) pairsWhole_k11) pairsWhole_k12) pairsWhole_k13) pairsWhole_k14) pairsWhole_k15) pairsWhole_k16) pairsWhole_k17) pairsWhole_k18) pairsWhole_k19) pairsWhole_k20) pairsWhole_k21) pairsWhole_k22) pairsWhole_k23) kp24) kp25) pairsWhole_k26) pairsWhole_k27) pairsWhole_k28) pairsWhole_k29) pairsWhole_k30) pairsWhole_k31)
theorem pairsWhole_n1 : Tryd.prog.funcNamed Rows.pairsWholeRow.func = some 4 := by kernel_rfl
theorem pairsWhole_n3 : Tryd.f4.isInstance Tryd.prog Rows.pairsWholeRow.origin Rows.pairsWholeRow.targs := of_decide_eq_true (by kernel_rfl)
theorem pairsWhole_n4 : Tryd.f4.isWrapper Tryd.prog Rows.pairsWholeRow.wrapper Rows.pairsWholeRow.mainSum := by unfold Func.isWrapper; first | (rw [if_pos (by decide +kernel)]; kernel_rfl) | (rw [if_neg (by decide +kernel)]; exact ⟨rfl, rfl⟩)
theorem pairsWhole_holds : Rows.PairsWholeSaid :=
  OpenClaim.holds_of_wide 4 Tryd.f4 rfl rfl rfl rfl rfl rfl rfl ⟨rfl, rfl, rfl, rfl, rfl⟩ rfl rfl rfl rfl rfl pairsWhole_n1 Tryd.func4 pairsWhole_facts pairsWhole_n3 pairsWhole_n4
    (fun os started H enc _ => pairsWhole_lifted os started H enc)
theorem pairsWhole_cardP : ([22].all fun u => !Tryd.prog.wantsStandIn u) = true := by kernel_rfl
theorem pairsWhole_card : Rows.PairsWholeCardSaid :=
  Claim7.holds_tied_plain_at .later [] [.data, .data] true (true, "e800a76e7a4ae78992b3357b7156831b380a7cdf5ea6d41e53df4801c27e8aed") false pairsWhole_holds (fun _ h => by cases h) (by kernel_rfl) (fun _ h => by cases h) pairsWhole_row_tie rfl ⟨rfl, rfl⟩ (by kernel_rfl) rfl
    (fun f fn hf hfn => by
      obtain rfl : f = 4 := Option.some.inj (pairsWhole_n1.symm.trans hf) |>.symm
      obtain rfl : fn = Tryd.f4 := (Option.some.inj (Tryd.func4.symm.trans hfn)).symm
      exact ⟨by kernel_rfl, fun j t ht => by
        rw [Tryd.params4] at ht
        have hm : t ∈ [22] := by simpa using Array.mem_of_getElem? ht
        exact (show Tryd.prog.wantsStandIn t = false by simpa using List.all_eq_true.1 pairsWhole_cardP t hm)⟩)
    (by kernel_rfl)
#print axioms pairsWhole_card
#print axioms pairsWhole_holds
end Go.Proofs.YtdhkdnmefeeclaaDoor
