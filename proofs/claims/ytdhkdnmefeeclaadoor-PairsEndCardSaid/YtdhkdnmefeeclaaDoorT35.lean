/- The law PairsEnd is true of every input; no conditions. -/
import Derived.Test.YtdhkdnmefeeclaaDoorTie
import Derived.Test.YtdhkdnmefeeclaaDoorCards
import Derived.SevenTiedAt
import Derived.WalkKit
import Derived.ProofKit
import Derived.OpenShut
import Derived.ShutString
import Derived.ChangeOld
import Derived.Below
import Derived.Test.YtdhkdnmefeeclaaDoorE19
import Derived.Test.YtdhkdnmefeeclaaDoorK0
import Derived.Test.YtdhkdnmefeeclaaDoorKEN
set_option linter.unusedSimpArgs false
set_option linter.unusedVariables false
set_option linter.unnecessarySimpa false
set_option linter.unusedVariables false
set_option maxRecDepth 100000
set_option maxHeartbeats 4000000
namespace Go.Proofs.YtdhkdnmefeeclaaDoor
open Go Go.Am Go.Proofs Go.RowKit Go.Off
open Go.ChangeShapes Go.WideShapes Go.ChangeAt
open Go.ChangeMaps (open_string shut_string)

set_option maxRecDepth 100000 in
theorem pairsEnd_lifted (os : Os) (started : os.Started) (H : Type) (enc : TypeId × Value → H) :
    ReturnsInHanded {} Tryd.checked os 5 .any (fun w args => (Rows.pairsEndSpec.pre enc Tryd.prog Tryd.f5 Rows.pairsEndRow.domain false w args ∧ laidMetH Tryd.prog laidD w) ∧ sizedMet enc Tryd.prog Tryd.f5 (OpenSpec.ofChange Rows.pairsEndSpec) false w args) (Rows.pairsEndSpec.post enc Tryd.prog Tryd.f5 false true false false) := by
  refine returnsInHanded_of_change_and (C := Tryd.checked) (X := fun w _ => laidMetH Tryd.prog laidD w) (fun _ _ _ hh h => h.of_heap hh) ownK started (by kernel_rfl) Tryd.func5
    (ChangeSpec.witness_shaped (enc := enc) (C := Tryd.checked) (os := os) (X := fun w _ => laidMetH Tryd.prog laidD w) false (World.laidAll Tryd.prog os laidD) #[.slice none 0 0, .int .i64 0] 8 (World.laidAll_os _ _ _)
      (World.shaped_of_ZipB (by kernel_rfl) (by kernel_rfl)) (by kernel_rfl) (by kernel_rfl) (by kernel_rfl) (witD os _)) ?_
  intro W base args ds gs before hval0 hW hcnd _ hL _
  have hval : ∀ (j : Nat) t v, Tryd.f5.params[j]? = some t → args[j]? = some v → Value.okWide Tryd.prog W .any base t v := hval0
  have hW' := hW
  obtain ⟨p, q, hA0, hV, rfl, hfz, hnd⟩ := hW
  have hA : DataW.TrodAll enc Tryd.prog W 0 (fun _ => true) true Tryd.f5.params.toList args.toList ds p := hA0
  rw [Tryd.params5] at hA hval
  obtain ⟨v0, vs0, d0, ds0, p0, q0, hargs, rfl, rfl, h0, r0⟩ := trodAll_cons hA
  obtain ⟨v1, vs1, d1, ds1, p1, q1, rfl, rfl, rfl, h1, r1⟩ := trodAll_cons r0
  obtain ⟨rfl, rfl, rfl⟩ := trodAll_nil r1
  obtain rfl : args = #[v0, v1] := by cases args; simp_all
  obtain ⟨rfl, rfl⟩ := trodVars_none hV
  obtain ⟨x0, l0, c0, rfl⟩ := okWide_slice Tryd.underlying22 (hval 0 22 v0 rfl rfl)
  have lt0 : ∀ x ∈ p0, x.block < W.heap.size := by obtain ⟨m, hm⟩ := h0; exact DataW.trod_lt m _ _ _ hm
  obtain ⟨z1, rfl, rfl, rfl, wz1⟩ := open_int Tryd.underlying3 (hval 1 3 v1 rfl rfl) h1
  obtain ⟨y0, ⟨a0, b0, e0⟩, w0⟩ := avr_cell rd_parts h0 rfl
  have w1 : AVR W (fun _ => False) [] hd00 (.one (.c (.val (.int .i64 z1)))) (.int .i64 z1) := .one _ _ (.c _ _ (.val _ rfl))
  have b1 : -9223372036854775808 ≤ z1 ∧ z1 ≤ 9223372036854775807 := by simpa [Lit.wf, IntKind.min, IntKind.max, IntKind.signed, IntKind.bits] using wz1
  cases e0
  clear hA0 hval0
  refine (law_calls (pairsEnd_C a0 z1 b1 (fun p hp => (b0 p hp).2)) (laidD_tab hL) (.cons w0 (.cons w1 .nil))).mono fun e W' ⟨he, bel⟩ => ?_
  subst he
  exact ⟨_, rfl, _, _, _, [], _, [], hW', trodAll_mk1 (shut_bool Tryd.underlying4 _), (trodAll_cons_mk (Below.trod laidK (by kernel_rfl) (of_decide_eq_true (by kernel_rfl)) h0 bel lt0) (trodAll_cons_mk (shut_int Tryd.underlying3 wz1) trodAll_mk0)), rfl, bel.frame _, fun h => by cases h⟩

theorem pairsEnd_k0 : Rows.pairsEndRow.wf (OpenSpec.ofChange Rows.pairsEndSpec) = true := by kernel_rfl
theorem pairsEnd_k3 : Tryd.f5.params.all (Tryd.prog.readableRec ·) = true := by kernel_rfl
theorem pairsEnd_k4 : namedTie Tryd.prog Rows.pairsEndRow.named Rows.pairsEndSpec.vars = true := by kernel_rfl
theorem pairsEnd_k5 : (Rows.pairsEndRow.stops == []) = true := by kernel_rfl
theorem pairsEnd_k7 : (Rows.pairsEndRow.knobs == []) = true := by kernel_rfl
theorem pairsEnd_k9 : (Rows.pairsEndRow.inPlace == Tryd.prog.inPlace 5) = true := by kernel_rfl
theorem pairsEnd_k10 : (Rows.pairsEndRow.unfollowed == Tryd.prog.unfollowed 5) = true := by kernel_rfl
theorem pairsEnd_k11 : (Rows.pairsEndRow.recurses == Tryd.prog.recurses 5) = true := by kernel_rfl
theorem pairsEnd_k12 : (Rows.pairsEndRow.named == Tryd.prog.varsNamed 5) = true := by kernel_rfl
theorem pairsEnd_k13 : (Rows.pairsEndRow.maps == (Tryd.f5.params.toList ++ Rows.pairsEndSpec.plain.varTypes Tryd.prog).any (Tryd.prog.mapsRec ·)) = true := by kernel_rfl
theorem pairsEnd_k14 : (Rows.pairsEndRow.ifaces == (Tryd.f5.params.toList ++ Rows.pairsEndSpec.plain.varTypes Tryd.prog).any (Tryd.prog.ifacesRec ·)) = true := by kernel_rfl
theorem pairsEnd_k15 : (Rows.pairsEndRow.mapsOut == Tryd.prog.mapsAmong Tryd.f5.resultTypes.toList) = true := by kernel_rfl
theorem pairsEnd_k16 : (Rows.pairsEndRow.loops == (Tryd.f5.params.toList ++ Rows.pairsEndSpec.plain.varTypes Tryd.prog).any (Tryd.prog.loopsFrom ·)) = true := by kernel_rfl
theorem pairsEnd_k17 : (Rows.pairsEndRow.wideKeys == (Tryd.f5.params.toList ++ Rows.pairsEndSpec.plain.varTypes Tryd.prog ++ Tryd.f5.resultTypes.toList).any (Tryd.prog.wideKeysFrom ·)) = true := by kernel_rfl
theorem pairsEnd_k18 : Rows.pairsEndSpec.vars.all (Tryd.prog.varReadable ·) = true := by kernel_rfl
theorem pairsEnd_k19 : Tryd.f5.resultTypes.all (fun t => Tryd.prog.readableRec t && decide (t < Tryd.prog.types.size)) = true := by kernel_rfl
theorem pairsEnd_k20 : (Rows.pairsEndRow.ifacesOut == Tryd.f5.resultTypes.toList.any (Tryd.prog.ifacesRec ·)) = true := by kernel_rfl
theorem pairsEnd_k21 : (Rows.pairsEndRow.loopsOut == Tryd.f5.resultTypes.toList.any (Tryd.prog.loopsFrom ·)) = true := by kernel_rfl
theorem pairsEnd_k22 : (Rows.pairsEndRow.plainKeys == Tryd.prog.plainKeys) = true := by rw [kp22]; rfl
theorem pairsEnd_k23 : Rows.pairsEndRow.shortTexts.isNone = true := by kernel_rfl
theorem pairsEnd_k26 : (Rows.pairsEndRow.lifted == Tryd.prog.liftsFinal) = true := by rw [kp26]; rfl
theorem pairsEnd_k27 : (Tryd.prog.make == some Rows.pairsEndRow.make) = true := by rw [kp27]; rfl
theorem pairsEnd_k28 : (Rows.pairsEndRow.kinds == (if Rows.pairsEndRow.domain.isEmpty then [] else Tryd.f5.params.toList.map fun t => match Tryd.prog.underlying t with | some (.int k) => some k | _ => none)) = true := by kernel_rfl
theorem pairsEnd_k29 : (Rows.pairsEndRow.pinned == Rows.pairsEndRow.pinnedBy) = true := by kernel_rfl
theorem pairsEnd_k30 : (Rows.pairsEndRow.veiled == (Tryd.f5.params.toList ++ Rows.pairsEndSpec.plain.varTypes Tryd.prog ++ Tryd.f5.resultTypes.toList).any (Tryd.prog.veiledRec ·)) = true := by kernel_rfl
theorem pairsEnd_k31 : Rows.pairsEndRow.veiledFits Tryd.prog Tryd.f5.params.toList (Tryd.f5.params.toList ++ Rows.pairsEndSpec.plain.varTypes Tryd.prog ++ Tryd.f5.resultTypes.toList) = true := by kernel_rfl
theorem pairsEnd_facts : joinedFacts Tryd.prog 5 Tryd.f5 Rows.pairsEndSpec Rows.pairsEndRow = true := (andK (andK (andK (andK (andK (andK (andK (andK (andK (andK (andK (andK (andK (andK (andK (andK (andK (andK (andK (andK (andK (andK (andK (andK (andK (andK (andK (andK (andK (andK (andK pairsEnd_k0 kp1) kp2) pairsEnd_k3) pairsEnd_k4) pairsEnd_k5) kp6) pairsEnd_k7) kp8) pairsEnd_k9) pairsEnd_k10) pairsEnd_k11) pairsEnd_k12) pairsEnd_k13) pairsEnd_k14) pairsEnd_k15) pairsEnd_k16) pairsEnd_k17) pairsEnd_k18) pairsEnd_k19) pairsEnd_k20) pairsEnd_k21) pairsEnd_k22) pairsEnd_k23) kp24) kp25) pairsEnd_k26) pairsEnd_k27) pairsEnd_k28) pairsEnd_k29) pairsEnd_k30) pairsEnd_k31)
theorem pairsEnd_n1 : Tryd.prog.funcNamed Rows.pairsEndRow.func = some 5 := by kernel_rfl
theorem pairsEnd_n3 : Tryd.f5.isInstance Tryd.prog Rows.pairsEndRow.origin Rows.pairsEndRow.targs := of_decide_eq_true (by kernel_rfl)
theorem pairsEnd_n4 : Tryd.f5.isWrapper Tryd.prog Rows.pairsEndRow.wrapper Rows.pairsEndRow.mainSum := by unfold Func.isWrapper; first | (rw [if_pos (by decide +kernel)]; kernel_rfl) | (rw [if_neg (by decide +kernel)]; exact ⟨rfl, rfl⟩)
theorem pairsEnd_holds : Rows.PairsEndSaid :=
  OpenClaim.holds_of_wide 5 Tryd.f5 rfl rfl rfl rfl rfl rfl rfl ⟨rfl, rfl, rfl, rfl, rfl⟩ rfl rfl rfl rfl rfl pairsEnd_n1 Tryd.func5 pairsEnd_facts pairsEnd_n3 pairsEnd_n4
    (fun os started H enc _ => pairsEnd_lifted os started H enc)
theorem pairsEnd_cardP : ([22, 3].all fun u => !Tryd.prog.wantsStandIn u) = true := by kernel_rfl
theorem pairsEnd_card : Rows.PairsEndCardSaid :=
  Claim7.holds_tied_plain_at .later [] [.data, .data] true (true, "e800a76e7a4ae78992b3357b7156831b380a7cdf5ea6d41e53df4801c27e8aed") false pairsEnd_holds (fun _ h => by cases h) (by kernel_rfl) (fun _ h => by cases h) pairsEnd_row_tie rfl ⟨rfl, rfl⟩ (by kernel_rfl) rfl
    (fun f fn hf hfn => by
      obtain rfl : f = 5 := Option.some.inj (pairsEnd_n1.symm.trans hf) |>.symm
      obtain rfl : fn = Tryd.f5 := (Option.some.inj (Tryd.func5.symm.trans hfn)).symm
      exact ⟨by kernel_rfl, fun j t ht => by
        rw [Tryd.params5] at ht
        have hm : t ∈ [22, 3] := by simpa using Array.mem_of_getElem? ht
        exact (show Tryd.prog.wantsStandIn t = false by simpa using List.all_eq_true.1 pairsEnd_cardP t hm)⟩)
    (by kernel_rfl)
#print axioms pairsEnd_card
#print axioms pairsEnd_holds
end Go.Proofs.YtdhkdnmefeeclaaDoor
