/- The law PairsTogether is true of every input; no conditions. -/
import Derived.Test.YtdhkdnmefeeclaaDoorTie
import Derived.Test.YtdhkdnmefeeclaaDoorCards
import Derived.SevenTiedAt
import Derived.WalkKit
import Derived.ProofKit
import Derived.OpenShut
import Derived.ShutString
import Derived.ChangeOld
import Derived.Below
import Derived.Test.YtdhkdnmefeeclaaDoorE19
import Derived.Test.YtdhkdnmefeeclaaDoorK0
import Derived.Test.YtdhkdnmefeeclaaDoorKTO
set_option linter.unusedSimpArgs false
set_option linter.unusedVariables false
set_option linter.unnecessarySimpa false
set_option linter.unusedVariables false
set_option maxRecDepth 100000
set_option maxHeartbeats 4000000
namespace Go.Proofs.YtdhkdnmefeeclaaDoor
open Go Go.Am Go.Proofs Go.RowKit Go.Off
open Go.ChangeShapes Go.WideShapes Go.ChangeAt
open Go.ChangeMaps (open_string shut_string)

set_option maxRecDepth 100000 in
theorem pairsTogether_lifted (os : Os) (started : os.Started) (H : Type) (enc : TypeId × Value → H) :
    ReturnsInHanded {} Tryd.checked os 12 .any (fun w args => (Rows.pairsTogetherSpec.pre enc Tryd.prog Tryd.f12 Rows.pairsTogetherRow.domain false w args ∧ laidMetH Tryd.prog laidD w) ∧ sizedMet enc Tryd.prog Tryd.f12 (OpenSpec.ofChange Rows.pairsTogetherSpec) false w args) (Rows.pairsTogetherSpec.post enc Tryd.prog Tryd.f12 false true false false) := by
  refine returnsInHanded_of_change_and (C := Tryd.checked) (X := fun w _ => laidMetH Tryd.prog laidD w) (fun _ _ _ hh h => h.of_heap hh) ownK started (by kernel_rfl) Tryd.func12
    (ChangeSpec.witness_shaped (enc := enc) (C := Tryd.checked) (os := os) (X := fun w _ => laidMetH Tryd.prog laidD w) false (World.laidAll Tryd.prog os laidD) #[.slice none 0 0, .int .i64 0, .int .i64 0, .int .i64 0] 8 (World.laidAll_os _ _ _)
      (World.shaped_of_ZipB (by kernel_rfl) (by kernel_rfl)) (by kernel_rfl) (by kernel_rfl) (by kernel_rfl) (witD os _)) ?_
  intro W base args ds gs before hval0 hW hcnd _ hL _
  have hval : ∀ (j : Nat) t v, Tryd.f12.params[j]? = some t → args[j]? = some v → Value.okWide Tryd.prog W .any base t v := hval0
  have hW' := hW
  obtain ⟨p, q, hA0, hV, rfl, hfz, hnd⟩ := hW
  have hA : DataW.TrodAll enc Tryd.prog W 0 (fun _ => true) true Tryd.f12.params.toList args.toList ds p := hA0
  rw [Tryd.params12] at hA hval
  obtain ⟨v0, vs0, d0, ds0, p0, q0, hargs, rfl, rfl, h0, r0⟩ := trodAll_cons hA
  obtain ⟨v1, vs1, d1, ds1, p1, q1, rfl, rfl, rfl, h1, r1⟩ := trodAll_cons r0
  obtain ⟨v2, vs2, d2, ds2, p2, q2, rfl, rfl, rfl, h2, r2⟩ := trodAll_cons r1
  obtain ⟨v3, vs3, d3, ds3, p3, q3, rfl, rfl, rfl, h3, r3⟩ := trodAll_cons r2
  obtain ⟨rfl, rfl, rfl⟩ := trodAll_nil r3
  obtain rfl : args = #[v0, v1, v2, v3] := by cases args; simp_all
  obtain ⟨rfl, rfl⟩ := trodVars_none hV
  obtain ⟨x0, l0, c0, rfl⟩ := okWide_slice Tryd.underlying22 (hval 0 22 v0 rfl rfl)
  have lt0 : ∀ x ∈ p0, x.block < W.heap.size := by obtain ⟨m, hm⟩ := h0; exact DataW.trod_lt m _ _ _ hm
  obtain ⟨z1, rfl, rfl, rfl, wz1⟩ := open_int Tryd.underlying3 (hval 1 3 v1 rfl rfl) h1
  obtain ⟨z2, rfl, rfl, rfl, wz2⟩ := open_int Tryd.underlying3 (hval 2 3 v2 rfl rfl) h2
  obtain ⟨z3, rfl, rfl, rfl, wz3⟩ := open_int Tryd.underlying3 (hval 3 3 v3 rfl rfl) h3
  obtain ⟨y0, ⟨a0, b0, e0⟩, w0⟩ := avr_cell rd_parts h0 rfl
  have w1 : AVR W (fun _ => False) [] hd00 (.one (.c (.val (.int .i64 z1)))) (.int .i64 z1) := .one _ _ (.c _ _ (.val _ rfl))
  have b1 : -9223372036854775808 ≤ z1 ∧ z1 ≤ 9223372036854775807 := by simpa [Lit.wf, IntKind.min, IntKind.max, IntKind.signed, IntKind.bits] using wz1
  have w2 : AVR W (fun _ => False) [] hd00 (.one (.c (.val (.int .i64 z2)))) (.int .i64 z2) := .one _ _ (.c _ _ (.val _ rfl))
  have b2 : -9223372036854775808 ≤ z2 ∧ z2 ≤ 9223372036854775807 := by simpa [Lit.wf, IntKind.min, IntKind.max, IntKind.signed, IntKind.bits] using wz2
  have w3 : AVR W (fun _ => False) [] hd00 (.one (.c (.val (.int .i64 z3)))) (.int .i64 z3) := .one _ _ (.c _ _ (.val _ rfl))
  have b3 : -9223372036854775808 ≤ z3 ∧ z3 ≤ 9223372036854775807 := by simpa [Lit.wf, IntKind.min, IntKind.max, IntKind.signed, IntKind.bits] using wz3
  cases e0
  clear hA0 hval0
  refine (law_calls (pairsTogether_C a0 z1 z2 z3 (fun p hp => (b0 p hp).2)) (laidD_tab hL) (.cons w0 (.cons w1 (.cons w2 (.cons w3 .nil))))).mono fun e W' ⟨he, bel⟩ => ?_
  subst he
  exact ⟨_, rfl, _, _, _, [], _, [], hW', trodAll_mk1 (shut_bool Tryd.underlying4 _), (trodAll_cons_mk (Below.trod laidK (by kernel_rfl) (of_decide_eq_true (by kernel_rfl)) h0 bel lt0) (trodAll_cons_mk (shut_int Tryd.underlying3 wz1) (trodAll_cons_mk (shut_int Tryd.underlying3 wz2) (trodAll_cons_mk (shut_int Tryd.underlying3 wz3) trodAll_mk0)))), rfl, bel.frame _, fun h => by cases h⟩

theorem pairsTogether_k0 : Rows.pairsTogetherRow.wf (OpenSpec.ofChange Rows.pairsTogetherSpec) = true := by kernel_rfl
theorem pairsTogether_k3 : Tryd.f12.params.all (Tryd.prog.readableRec ·) = true := by kernel_rfl
theorem pairsTogether_k4 : namedTie Tryd.prog Rows.pairsTogetherRow.named Rows.pairsTogetherSpec.vars = true := by kernel_rfl
theorem pairsTogether_k5 : (Rows.pairsTogetherRow.stops == []) = true := by kernel_rfl
theorem pairsTogether_k7 : (Rows.pairsTogetherRow.knobs == []) = true := by kernel_rfl
theorem pairsTogether_k9 : (Rows.pairsTogetherRow.inPlace == Tryd.prog.inPlace 12) = true := by kernel_rfl
theorem pairsTogether_k10 : (Rows.pairsTogetherRow.unfollowed == Tryd.prog.unfollowed 12) = true := by kernel_rfl
theorem pairsTogether_k11 : (Rows.pairsTogetherRow.recurses == Tryd.prog.recurses 12) = true := by kernel_rfl
theorem pairsTogether_k12 : (Rows.pairsTogetherRow.named == Tryd.prog.varsNamed 12) = true := by kernel_rfl
theorem pairsTogether_k13 : (Rows.pairsTogetherRow.maps == (Tryd.f12.params.toList ++ Rows.pairsTogetherSpec.plain.varTypes Tryd.prog).any (Tryd.prog.mapsRec ·)) = true := by kernel_rfl
theorem pairsTogether_k14 : (Rows.pairsTogetherRow.ifaces == (Tryd.f12.params.toList ++ Rows.pairsTogetherSpec.plain.varTypes Tryd.prog).any (Tryd.prog.ifacesRec ·)) = true := by kernel_rfl
theorem pairsTogether_k15 : (Rows.pairsTogetherRow.mapsOut == Tryd.prog.mapsAmong Tryd.f12.resultTypes.toList) = true := by kernel_rfl
theorem pairsTogether_k16 : (Rows.pairsTogetherRow.loops == (Tryd.f12.params.toList ++ Rows.pairsTogetherSpec.plain.varTypes Tryd.prog).any (Tryd.prog.loopsFrom ·)) = true := by kernel_rfl
theorem pairsTogether_k17 : (Rows.pairsTogetherRow.wideKeys == (Tryd.f12.params.toList ++ Rows.pairsTogetherSpec.plain.varTypes Tryd.prog ++ Tryd.f12.resultTypes.toList).any (Tryd.prog.wideKeysFrom ·)) = true := by kernel_rfl
theorem pairsTogether_k18 : Rows.pairsTogetherSpec.vars.all (Tryd.prog.varReadable ·) = true := by kernel_rfl
theorem pairsTogether_k19 : Tryd.f12.resultTypes.all (fun t => Tryd.prog.readableRec t && decide (t < Tryd.prog.types.size)) = true := by kernel_rfl
theorem pairsTogether_k20 : (Rows.pairsTogetherRow.ifacesOut == Tryd.f12.resultTypes.toList.any (Tryd.prog.ifacesRec ·)) = true := by kernel_rfl
theorem pairsTogether_k21 : (Rows.pairsTogetherRow.loopsOut == Tryd.f12.resultTypes.toList.any (Tryd.prog.loopsFrom ·)) = true := by kernel_rfl
theorem pairsTogether_k22 : (Rows.pairsTogetherRow.plainKeys == Tryd.prog.plainKeys) = true := by rw [kp22]; rfl
theorem pairsTogether_k23 : Rows.pairsTogetherRow.shortTexts.isNone = true := by kernel_rfl
theorem pairsTogether_k26 : (Rows.pairsTogetherRow.lifted == Tryd.prog.liftsFinal) = true := by rw [kp26]; rfl
theorem pairsTogether_k27 : (Tryd.prog.make == some Rows.pairsTogetherRow.make) = true := by rw [kp27]; rfl
theorem pairsTogether_k28 : (Rows.pairsTogetherRow.kinds == (if Rows.pairsTogetherRow.domain.isEmpty then [] else Tryd.f12.params.toList.map fun t => match Tryd.prog.underlying t with | some (.int k) => some k | _ => none)) = true := by kernel_rfl
theorem pairsTogether_k29 : (Rows.pairsTogetherRow.pinned == Rows.pairsTogetherRow.pinnedBy) = true := by kernel_rfl
theorem pairsTogether_k30 : (Rows.pairsTogetherRow.veiled == (Tryd.f12.params.toList ++ Rows.pairsTogetherSpec.plain.varTypes Tryd.prog ++ Tryd.f12.resultTypes.toList).any (Tryd.prog.veiledRec ·)) = true := by kernel_rfl
theorem pairsTogether_k31 : Rows.pairsTogetherRow.veiledFits Tryd.prog Tryd.f12.params.toList (Tryd.f12.params.toList ++ Rows.pairsTogetherSpec.plain.varTypes Tryd.prog ++ Tryd.f12.resultTypes.toList) = true := by kernel_rfl
theorem pairsTogether_facts : joinedFacts Tryd.prog 12 Tryd.f12 Rows.pairsTogetherSpec Rows.pairsTogetherRow = true := (andK (andK (andK (andK (andK (andK (andK (andK (andK (andK (andK (andK (andK (andK (andK (andK (andK (andK (andK (andK (andK (andK (andK (andK (andK (andK (andK (andK (andK (andK (andK pairsTogether_k0 kp1) kp2) pairsTogether_k3) pairsTogether_k4) pairsTogether_k5) kp6) pairsTogether_k7) kp8) pairsTogether_k9) pairsTogether_k10) pairsTogether_k11) pairsTogether_k12) pairsTogether_k13) pairsTogether_k14) pairsTogether_k15) pairsTogether_k16) pairsTogether_k17) pairsTogether_k18) pairsTogether_k19) pairsTogether_k20) pairsTogether_k21) pairsTogether_k22) pairsTogether_k23) kp24) kp25) pairsTogether_k26) pairsTogether_k27) pairsTogether_k28) pairsTogether_k29) pairsTogether_k30) pairsTogether_k31)
theorem pairsTogether_n1 : Tryd.prog.funcNamed Rows.pairsTogetherRow.func = some 12 := by kernel_rfl
theorem pairsTogether_n3 : Tryd.f12.isInstance Tryd.prog Rows.pairsTogetherRow.origin Rows.pairsTogetherRow.targs := of_decide_eq_true (by kernel_rfl)
theorem pairsTogether_n4 : Tryd.f12.isWrapper Tryd.prog Rows.pairsTogetherRow.wrapper Rows.pairsTogetherRow.mainSum := by unfold Func.isWrapper; first | (rw [if_pos (by decide +kernel)]; kernel_rfl) | (rw [if_neg (by decide +kernel)]; exact ⟨rfl, rfl⟩)
theorem pairsTogether_holds : Rows.PairsTogetherSaid :=
  OpenClaim.holds_of_wide 12 Tryd.f12 rfl rfl rfl rfl rfl rfl rfl ⟨rfl, rfl, rfl, rfl, rfl⟩ rfl rfl rfl rfl rfl pairsTogether_n1 Tryd.func12 pairsTogether_facts pairsTogether_n3 pairsTogether_n4
    (fun os started H enc _ => pairsTogether_lifted os started H enc)
theorem pairsTogether_cardP : ([22, 3, 3, 3].all fun u => !Tryd.prog.wantsStandIn u) = true := by kernel_rfl
theorem pairsTogether_card : Rows.PairsTogetherCardSaid :=
  Claim7.holds_tied_plain_at .later [] [.data, .data] true (true, "e800a76e7a4ae78992b3357b7156831b380a7cdf5ea6d41e53df4801c27e8aed") false pairsTogether_holds (fun _ h => by cases h) (by kernel_rfl) (fun _ h => by cases h) pairsTogether_row_tie rfl ⟨rfl, rfl⟩ (by kernel_rfl) rfl
    (fun f fn hf hfn => by
      obtain rfl : f = 12 := Option.some.inj (pairsTogether_n1.symm.trans hf) |>.symm
      obtain rfl : fn = Tryd.f12 := (Option.some.inj (Tryd.func12.symm.trans hfn)).symm
      exact ⟨by kernel_rfl, fun j t ht => by
        rw [Tryd.params12] at ht
        have hm : t ∈ [22, 3, 3, 3] := by simpa using Array.mem_of_getElem? ht
        exact (show Tryd.prog.wantsStandIn t = false by simpa using List.all_eq_true.1 pairsTogether_cardP t hm)⟩)
    (by kernel_rfl)
#print axioms pairsTogether_card
#print axioms pairsTogether_holds
end Go.Proofs.YtdhkdnmefeeclaaDoor
