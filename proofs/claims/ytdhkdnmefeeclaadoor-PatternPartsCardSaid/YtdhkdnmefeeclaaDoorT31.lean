/- The law PatternParts is true of every input; no conditions. -/
import Derived.Test.YtdhkdnmefeeclaaDoorTie
import Derived.Test.YtdhkdnmefeeclaaDoorCards
import Derived.SevenTiedAt
import Derived.WalkKit
import Derived.ProofKit
import Derived.OpenShut
import Derived.ShutString
import Derived.ChangeOld
import Derived.Below
import Derived.Test.YtdhkdnmefeeclaaDoorED
import Derived.Test.YtdhkdnmefeeclaaDoorK0
import Derived.Test.YtdhkdnmefeeclaaDoorKPT
set_option linter.unusedSimpArgs false
set_option linter.unusedVariables false
set_option linter.unnecessarySimpa false
set_option linter.unusedVariables false
set_option maxRecDepth 100000
set_option maxHeartbeats 4000000
namespace Go.Proofs.YtdhkdnmefeeclaaDoor
open Go Go.Am Go.Proofs Go.RowKit Go.Off
open Go.ChangeShapes Go.WideShapes Go.ChangeAt
open Go.ChangeMaps (open_string shut_string)

set_option maxRecDepth 100000 in
theorem patternParts_lifted (os : Os) (started : os.Started) (H : Type) (enc : TypeId × Value → H) :
    ReturnsInHanded {} Tryd.checked os 10 .any (fun w args => (Rows.patternPartsSpec.pre enc Tryd.prog Tryd.f10 Rows.patternPartsRow.domain false w args ∧ laidMetH Tryd.prog laidD w) ∧ sizedMet enc Tryd.prog Tryd.f10 (OpenSpec.ofChange Rows.patternPartsSpec) false w args) (Rows.patternPartsSpec.post enc Tryd.prog Tryd.f10 false true false false) := by
  refine returnsInHanded_of_change_and (C := Tryd.checked) (X := fun w _ => laidMetH Tryd.prog laidD w) (fun _ _ _ hh h => h.of_heap hh) ownK started (by kernel_rfl) Tryd.func10
    (ChangeSpec.witness_shaped (enc := enc) (C := Tryd.checked) (os := os) (X := fun w _ => laidMetH Tryd.prog laidD w) false (World.laidAll Tryd.prog os laidD) #[.int .i64 0, .slice none 0 0, .slice none 0 0, .int .i64 0] 8 (World.laidAll_os _ _ _)
      (World.shaped_of_ZipB (by kernel_rfl) (by kernel_rfl)) (by kernel_rfl) (by kernel_rfl) (by kernel_rfl) (witD os _)) ?_
  intro W base args ds gs before hval0 hW hcnd _ hL _
  have hval : ∀ (j : Nat) t v, Tryd.f10.params[j]? = some t → args[j]? = some v → Value.okWide Tryd.prog W .any base t v := hval0
  have hW' := hW
  obtain ⟨p, q, hA0, hV, rfl, hfz, hnd⟩ := hW
  have hA : DataW.TrodAll enc Tryd.prog W 0 (fun _ => true) true Tryd.f10.params.toList args.toList ds p := hA0
  rw [Tryd.params10] at hA hval
  obtain ⟨v0, vs0, d0, ds0, p0, q0, hargs, rfl, rfl, h0, r0⟩ := trodAll_cons hA
  obtain ⟨v1, vs1, d1, ds1, p1, q1, rfl, rfl, rfl, h1, r1⟩ := trodAll_cons r0
  obtain ⟨v2, vs2, d2, ds2, p2, q2, rfl, rfl, rfl, h2, r2⟩ := trodAll_cons r1
  obtain ⟨v3, vs3, d3, ds3, p3, q3, rfl, rfl, rfl, h3, r3⟩ := trodAll_cons r2
  obtain ⟨rfl, rfl, rfl⟩ := trodAll_nil r3
  obtain rfl : args = #[v0, v1, v2, v3] := by cases args; simp_all
  obtain ⟨rfl, rfl⟩ := trodVars_none hV
  obtain ⟨z0, rfl, rfl, rfl, wz0⟩ := open_int Tryd.underlying3 (hval 0 3 v0 rfl rfl) h0
  obtain ⟨x1, l1, c1, rfl⟩ := okWide_slice Tryd.underlying34 (hval 1 34 v1 rfl rfl)
  have lt1 : ∀ x ∈ p1, x.block < W.heap.size := by obtain ⟨m, hm⟩ := h1; exact DataW.trod_lt m _ _ _ hm
  obtain ⟨x2, l2, c2, rfl⟩ := okWide_slice Tryd.underlying53 (hval 2 53 v2 rfl rfl)
  have lt2 : ∀ x ∈ p2, x.block < W.heap.size := by obtain ⟨m, hm⟩ := h2; exact DataW.trod_lt m _ _ _ hm
  obtain ⟨z3, rfl, rfl, rfl, wz3⟩ := open_int Tryd.underlying3 (hval 3 3 v3 rfl rfl) h3
  have w0 : AVR W (fun _ => False) [] hd00 (.one (.c (.val (.int .i64 z0)))) (.int .i64 z0) := .one _ _ (.c _ _ (.val _ rfl))
  have b0 : -9223372036854775808 ≤ z0 ∧ z0 ≤ 9223372036854775807 := by simpa [Lit.wf, IntKind.min, IntKind.max, IntKind.signed, IntKind.bits] using wz0
  obtain ⟨y1, ⟨a1, b1, e1⟩, w1⟩ := avr_cell rd_ints h1 rfl
  obtain ⟨y2, ⟨a2, b2, e2⟩, w2⟩ := avr_cell rd_rules h2 rfl
  have w3 : AVR W (fun _ => False) [] hd00 (.one (.c (.val (.int .i64 z3)))) (.int .i64 z3) := .one _ _ (.c _ _ (.val _ rfl))
  have b3 : -9223372036854775808 ≤ z3 ∧ z3 ≤ 9223372036854775807 := by simpa [Lit.wf, IntKind.min, IntKind.max, IntKind.signed, IntKind.bits] using wz3
  cases e1
  cases e2
  clear hA0 hval0
  refine (law_calls (patternParts_C z0 a1 a2 z3) (laidD_tab hL) (.cons w0 (.cons w1 (.cons w2 (.cons w3 .nil))))).mono fun e W' ⟨he, bel⟩ => ?_
  subst he
  exact ⟨_, rfl, _, _, _, [], _, [], hW', trodAll_mk1 (shut_bool Tryd.underlying4 _), (trodAll_cons_mk (shut_int Tryd.underlying3 wz0) (trodAll_cons_mk (Below.trod laidK (by kernel_rfl) (of_decide_eq_true (by kernel_rfl)) h1 bel lt1) (trodAll_cons_mk (Below.trod laidK (by kernel_rfl) (of_decide_eq_true (by kernel_rfl)) h2 bel lt2) (trodAll_cons_mk (shut_int Tryd.underlying3 wz3) trodAll_mk0)))), rfl, bel.frame _, fun h => by cases h⟩

theorem patternParts_k0 : Rows.patternPartsRow.wf (OpenSpec.ofChange Rows.patternPartsSpec) = true := by kernel_rfl
theorem patternParts_k3 : Tryd.f10.params.all (Tryd.prog.readableRec ·) = true := by kernel_rfl
theorem patternParts_k4 : namedTie Tryd.prog Rows.patternPartsRow.named Rows.patternPartsSpec.vars = true := by kernel_rfl
theorem patternParts_k5 : (Rows.patternPartsRow.stops == []) = true := by kernel_rfl
theorem patternParts_k7 : (Rows.patternPartsRow.knobs == []) = true := by kernel_rfl
theorem patternParts_k9 : (Rows.patternPartsRow.inPlace == Tryd.prog.inPlace 10) = true := by kernel_rfl
theorem patternParts_k10 : (Rows.patternPartsRow.unfollowed == Tryd.prog.unfollowed 10) = true := by kernel_rfl
theorem patternParts_k11 : (Rows.patternPartsRow.recurses == Tryd.prog.recurses 10) = true := by kernel_rfl
theorem patternParts_k12 : (Rows.patternPartsRow.named == Tryd.prog.varsNamed 10) = true := by kernel_rfl
theorem patternParts_k13 : (Rows.patternPartsRow.maps == (Tryd.f10.params.toList ++ Rows.patternPartsSpec.plain.varTypes Tryd.prog).any (Tryd.prog.mapsRec ·)) = true := by kernel_rfl
theorem patternParts_k14 : (Rows.patternPartsRow.ifaces == (Tryd.f10.params.toList ++ Rows.patternPartsSpec.plain.varTypes Tryd.prog).any (Tryd.prog.ifacesRec ·)) = true := by kernel_rfl
theorem patternParts_k15 : (Rows.patternPartsRow.mapsOut == Tryd.prog.mapsAmong Tryd.f10.resultTypes.toList) = true := by kernel_rfl
theorem patternParts_k16 : (Rows.patternPartsRow.loops == (Tryd.f10.params.toList ++ Rows.patternPartsSpec.plain.varTypes Tryd.prog).any (Tryd.prog.loopsFrom ·)) = true := by kernel_rfl
theorem patternParts_k17 : (Rows.patternPartsRow.wideKeys == (Tryd.f10.params.toList ++ Rows.patternPartsSpec.plain.varTypes Tryd.prog ++ Tryd.f10.resultTypes.toList).any (Tryd.prog.wideKeysFrom ·)) = true := by kernel_rfl
theorem patternParts_k18 : Rows.patternPartsSpec.vars.all (Tryd.prog.varReadable ·) = true := by kernel_rfl
theorem patternParts_k19 : Tryd.f10.resultTypes.all (fun t => Tryd.prog.readableRec t && decide (t < Tryd.prog.types.size)) = true := by kernel_rfl
theorem patternParts_k20 : (Rows.patternPartsRow.ifacesOut == Tryd.f10.resultTypes.toList.any (Tryd.prog.ifacesRec ·)) = true := by kernel_rfl
theorem patternParts_k21 : (Rows.patternPartsRow.loopsOut == Tryd.f10.resultTypes.toList.any (Tryd.prog.loopsFrom ·)) = true := by kernel_rfl
theorem patternParts_k22 : (Rows.patternPartsRow.plainKeys == Tryd.prog.plainKeys) = true := by rw [kp22]; rfl
theorem patternParts_k23 : Rows.patternPartsRow.shortTexts.isNone = true := by kernel_rfl
theorem patternParts_k26 : (Rows.patternPartsRow.lifted == Tryd.prog.liftsFinal) = true := by rw [kp26]; rfl
theorem patternParts_k27 : (Tryd.prog.make == some Rows.patternPartsRow.make) = true := by rw [kp27]; rfl
theorem patternParts_k28 : (Rows.patternPartsRow.kinds == (if Rows.patternPartsRow.domain.isEmpty then [] else Tryd.f10.params.toList.map fun t => match Tryd.prog.underlying t with | some (.int k) => some k | _ => none)) = true := by kernel_rfl
theorem patternParts_k29 : (Rows.patternPartsRow.pinned == Rows.patternPartsRow.pinnedBy) = true := by kernel_rfl
theorem patternParts_k30 : (Rows.patternPartsRow.veiled == (Tryd.f10.params.toList ++ Rows.patternPartsSpec.plain.varTypes Tryd.prog ++ Tryd.f10.resultTypes.toList).any (Tryd.prog.veiledRec ·)) = true := by kernel_rfl
theorem patternParts_k31 : Rows.patternPartsRow.veiledFits Tryd.prog Tryd.f10.params.toList (Tryd.f10.params.toList ++ Rows.patternPartsSpec.plain.varTypes Tryd.prog ++ Tryd.f10.resultTypes.toList) = true := by kernel_rfl
theorem patternParts_facts : joinedFacts Tryd.prog 10 Tryd.f10 Rows.patternPartsSpec Rows.patternPartsRow = true := (andK (andK (andK (andK (andK (andK (andK (andK (andK (andK (andK (andK (andK (andK (andK (andK (andK (andK (andK (andK (andK (andK (andK (andK (andK (andK (andK (andK (andK (andK (andK patternParts_k0 kp1) kp2) patternParts_k3) patternParts_k4) patternParts_k5) kp6) patternParts_k7) kp8) patternParts_k9) patternParts_k10) patternParts_k11) patternParts_k12) patternParts_k13) patternParts_k14) patternParts_k15) patternParts_k16) patternParts_k17) patternParts_k18) patternParts_k19) patternParts_k20) patternParts_k21) patternParts_k22) patternParts_k23) kp24) kp25) patternParts_k26) patternParts_k27) patternParts_k28) patternParts_k29) patternParts_k30) patternParts_k31)
theorem patternParts_n1 : Tryd.prog.funcNamed Rows.patternPartsRow.func = some 10 := by kernel_rfl
theorem patternParts_n3 : Tryd.f10.isInstance Tryd.prog Rows.patternPartsRow.origin Rows.patternPartsRow.targs := of_decide_eq_true (by kernel_rfl)
theorem patternParts_n4 : Tryd.f10.isWrapper Tryd.prog Rows.patternPartsRow.wrapper Rows.patternPartsRow.mainSum := by unfold Func.isWrapper; first | (rw [if_pos (by decide +kernel)]; kernel_rfl) | (rw [if_neg (by decide +kernel)]; exact ⟨rfl, rfl⟩)
theorem patternParts_holds : Rows.PatternPartsSaid :=
  OpenClaim.holds_of_wide 10 Tryd.f10 rfl rfl rfl rfl rfl rfl rfl ⟨rfl, rfl, rfl, rfl, rfl⟩ rfl rfl rfl rfl rfl patternParts_n1 Tryd.func10 patternParts_facts patternParts_n3 patternParts_n4
    (fun os started H enc _ => patternParts_lifted os started H enc)
theorem patternParts_cardP : ([3, 34, 53, 3].all fun u => !Tryd.prog.wantsStandIn u) = true := by kernel_rfl
theorem patternParts_card : Rows.PatternPartsCardSaid :=
  Claim7.holds_tied_plain_at .later [] [.data, .data] true (true, "e800a76e7a4ae78992b3357b7156831b380a7cdf5ea6d41e53df4801c27e8aed") false patternParts_holds (fun _ h => by cases h) (by kernel_rfl) (fun _ h => by cases h) patternParts_row_tie rfl ⟨rfl, rfl⟩ (by kernel_rfl) rfl
    (fun f fn hf hfn => by
      obtain rfl : f = 10 := Option.some.inj (patternParts_n1.symm.trans hf) |>.symm
      obtain rfl : fn = Tryd.f10 := (Option.some.inj (Tryd.func10.symm.trans hfn)).symm
      exact ⟨by kernel_rfl, fun j t ht => by
        rw [Tryd.params10] at ht
        have hm : t ∈ [3, 34, 53, 3] := by simpa using Array.mem_of_getElem? ht
        exact (show Tryd.prog.wantsStandIn t = false by simpa using List.all_eq_true.1 patternParts_cardP t hm)⟩)
    (by kernel_rfl)
#print axioms patternParts_card
#print axioms patternParts_holds
end Go.Proofs.YtdhkdnmefeeclaaDoor
