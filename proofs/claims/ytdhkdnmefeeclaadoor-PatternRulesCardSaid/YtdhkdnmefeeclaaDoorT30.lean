/- The law PatternRules is true of every input; no conditions. -/
import Derived.Test.YtdhkdnmefeeclaaDoorTie
import Derived.Test.YtdhkdnmefeeclaaDoorCards
import Derived.SevenTiedAt
import Derived.WalkKit
import Derived.ProofKit
import Derived.OpenShut
import Derived.ShutString
import Derived.ChangeOld
import Derived.Below
import Derived.Test.YtdhkdnmefeeclaaDoorED
import Derived.Test.YtdhkdnmefeeclaaDoorK0
import Derived.Test.YtdhkdnmefeeclaaDoorKRU
set_option linter.unusedSimpArgs false
set_option linter.unusedVariables false
set_option linter.unnecessarySimpa false
set_option linter.unusedVariables false
set_option maxRecDepth 100000
set_option maxHeartbeats 4000000
namespace Go.Proofs.YtdhkdnmefeeclaaDoor
open Go Go.Am Go.Proofs Go.RowKit Go.Off
open Go.ChangeShapes Go.WideShapes Go.ChangeAt
open Go.ChangeMaps (open_string shut_string)

set_option maxRecDepth 100000 in
theorem patternRules_lifted (os : Os) (started : os.Started) (H : Type) (enc : TypeId × Value → H) :
    ReturnsInHanded {} Tryd.checked os 9 .any (fun w args => (Rows.patternRulesSpec.pre enc Tryd.prog Tryd.f9 Rows.patternRulesRow.domain false w args ∧ laidMetH Tryd.prog laidD w) ∧ sizedMet enc Tryd.prog Tryd.f9 (OpenSpec.ofChange Rows.patternRulesSpec) false w args) (Rows.patternRulesSpec.post enc Tryd.prog Tryd.f9 false true false false) := by
  refine returnsInHanded_of_change_and (C := Tryd.checked) (X := fun w _ => laidMetH Tryd.prog laidD w) (fun _ _ _ hh h => h.of_heap hh) ownK started (by kernel_rfl) Tryd.func9
    (ChangeSpec.witness_shaped (enc := enc) (C := Tryd.checked) (os := os) (X := fun w _ => laidMetH Tryd.prog laidD w) false (World.laidAll Tryd.prog os laidD) #[.int .i64 0, .slice none 0 0, .slice none 0 0, .agg #[.int .i64 0, .int .i64 0, .bool false]] 8 (World.laidAll_os _ _ _)
      (World.shaped_of_ZipB (by kernel_rfl) (by kernel_rfl)) (by kernel_rfl) (by kernel_rfl) (by kernel_rfl) (witD os _)) ?_
  intro W base args ds gs before hval0 hW hcnd _ hL _
  have hval : ∀ (j : Nat) t v, Tryd.f9.params[j]? = some t → args[j]? = some v → Value.okWide Tryd.prog W .any base t v := hval0
  have hW' := hW
  obtain ⟨p, q, hA0, hV, rfl, hfz, hnd⟩ := hW
  have hA : DataW.TrodAll enc Tryd.prog W 0 (fun _ => true) true Tryd.f9.params.toList args.toList ds p := hA0
  rw [Tryd.params9] at hA hval
  obtain ⟨v0, vs0, d0, ds0, p0, q0, hargs, rfl, rfl, h0, r0⟩ := trodAll_cons hA
  obtain ⟨v1, vs1, d1, ds1, p1, q1, rfl, rfl, rfl, h1, r1⟩ := trodAll_cons r0
  obtain ⟨v2, vs2, d2, ds2, p2, q2, rfl, rfl, rfl, h2, r2⟩ := trodAll_cons r1
  obtain ⟨v3, vs3, d3, ds3, p3, q3, rfl, rfl, rfl, h3, r3⟩ := trodAll_cons r2
  obtain ⟨rfl, rfl, rfl⟩ := trodAll_nil r3
  obtain rfl : args = #[v0, v1, v2, v3] := by cases args; simp_all
  obtain ⟨rfl, rfl⟩ := trodVars_none hV
  obtain ⟨z0, rfl, rfl, rfl, wz0⟩ := open_int Tryd.underlying3 (hval 0 3 v0 rfl rfl) h0
  obtain ⟨x1, l1, c1, rfl⟩ := okWide_slice Tryd.underlying34 (hval 1 34 v1 rfl rfl)
  have lt1 : ∀ x ∈ p1, x.block < W.heap.size := by obtain ⟨m, hm⟩ := h1; exact DataW.trod_lt m _ _ _ hm
  obtain ⟨x2, l2, c2, rfl⟩ := okWide_slice Tryd.underlying53 (hval 2 53 v2 rfl rfl)
  have lt2 : ∀ x ∈ p2, x.block < W.heap.size := by obtain ⟨m, hm⟩ := h2; exact DataW.trod_lt m _ _ _ hm
  obtain ⟨cs3, rfl⟩ : ∃ cs, v3 = .agg cs := by
    have h := hval 3 63 v3 rfl rfl
    unfold Value.okWide at h
    rw [Tryd.underlying63] at h
    exact h.imp fun cs hc => hc.1
  have lt3 : ∀ x ∈ p3, x.block < W.heap.size := by obtain ⟨m, hm⟩ := h3; exact DataW.trod_lt m _ _ _ hm
  have w0 : AVR W (fun _ => False) [] hd00 (.one (.c (.val (.int .i64 z0)))) (.int .i64 z0) := .one _ _ (.c _ _ (.val _ rfl))
  have b0 : -9223372036854775808 ≤ z0 ∧ z0 ≤ 9223372036854775807 := by simpa [Lit.wf, IntKind.min, IntKind.max, IntKind.signed, IntKind.bits] using wz0
  obtain ⟨y1, ⟨a1, b1, e1⟩, w1⟩ := avr_cell rd_ints h1 rfl
  obtain ⟨y2, ⟨a2, b2, e2⟩, w2⟩ := avr_cell rd_rules h2 rfl
  obtain ⟨y3, ⟨a3, b3, e3⟩, w3⟩ := avr_agg rd_rule h3
  cases e1
  cases e2
  subst e3
  clear hA0 hval0
  refine (law_calls (patternRules_C z0 a1 a2 a3) (laidD_tab hL) (.cons w0 (.cons w1 (.cons w2 (.cons w3 .nil))))).mono fun e W' ⟨he, bel⟩ => ?_
  subst he
  exact ⟨_, rfl, _, _, _, [], _, [], hW', trodAll_mk1 (shut_bool Tryd.underlying4 _), (trodAll_cons_mk (shut_int Tryd.underlying3 wz0) (trodAll_cons_mk (Below.trod laidK (by kernel_rfl) (of_decide_eq_true (by kernel_rfl)) h1 bel lt1) (trodAll_cons_mk (Below.trod laidK (by kernel_rfl) (of_decide_eq_true (by kernel_rfl)) h2 bel lt2) (trodAll_cons_mk (Below.trod laidK (by kernel_rfl) (of_decide_eq_true (by kernel_rfl)) h3 bel lt3) trodAll_mk0)))), rfl, bel.frame _, fun h => by cases h⟩

theorem patternRules_k0 : Rows.patternRulesRow.wf (OpenSpec.ofChange Rows.patternRulesSpec) = true := by kernel_rfl
theorem patternRules_k3 : Tryd.f9.params.all (Tryd.prog.readableRec ·) = true := by kernel_rfl
theorem patternRules_k4 : namedTie Tryd.prog Rows.patternRulesRow.named Rows.patternRulesSpec.vars = true := by kernel_rfl
theorem patternRules_k5 : (Rows.patternRulesRow.stops == []) = true := by kernel_rfl
theorem patternRules_k7 : (Rows.patternRulesRow.knobs == []) = true := by kernel_rfl
theorem patternRules_k9 : (Rows.patternRulesRow.inPlace == Tryd.prog.inPlace 9) = true := by kernel_rfl
theorem patternRules_k10 : (Rows.patternRulesRow.unfollowed == Tryd.prog.unfollowed 9) = true := by kernel_rfl
theorem patternRules_k11 : (Rows.patternRulesRow.recurses == Tryd.prog.recurses 9) = true := by kernel_rfl
theorem patternRules_k12 : (Rows.patternRulesRow.named == Tryd.prog.varsNamed 9) = true := by kernel_rfl
theorem patternRules_k13 : (Rows.patternRulesRow.maps == (Tryd.f9.params.toList ++ Rows.patternRulesSpec.plain.varTypes Tryd.prog).any (Tryd.prog.mapsRec ·)) = true := by kernel_rfl
theorem patternRules_k14 : (Rows.patternRulesRow.ifaces == (Tryd.f9.params.toList ++ Rows.patternRulesSpec.plain.varTypes Tryd.prog).any (Tryd.prog.ifacesRec ·)) = true := by kernel_rfl
theorem patternRules_k15 : (Rows.patternRulesRow.mapsOut == Tryd.prog.mapsAmong Tryd.f9.resultTypes.toList) = true := by kernel_rfl
theorem patternRules_k16 : (Rows.patternRulesRow.loops == (Tryd.f9.params.toList ++ Rows.patternRulesSpec.plain.varTypes Tryd.prog).any (Tryd.prog.loopsFrom ·)) = true := by kernel_rfl
theorem patternRules_k17 : (Rows.patternRulesRow.wideKeys == (Tryd.f9.params.toList ++ Rows.patternRulesSpec.plain.varTypes Tryd.prog ++ Tryd.f9.resultTypes.toList).any (Tryd.prog.wideKeysFrom ·)) = true := by kernel_rfl
theorem patternRules_k18 : Rows.patternRulesSpec.vars.all (Tryd.prog.varReadable ·) = true := by kernel_rfl
theorem patternRules_k19 : Tryd.f9.resultTypes.all (fun t => Tryd.prog.readableRec t && decide (t < Tryd.prog.types.size)) = true := by kernel_rfl
theorem patternRules_k20 : (Rows.patternRulesRow.ifacesOut == Tryd.f9.resultTypes.toList.any (Tryd.prog.ifacesRec ·)) = true := by kernel_rfl
theorem patternRules_k21 : (Rows.patternRulesRow.loopsOut == Tryd.f9.resultTypes.toList.any (Tryd.prog.loopsFrom ·)) = true := by kernel_rfl
theorem patternRules_k22 : (Rows.patternRulesRow.plainKeys == Tryd.prog.plainKeys) = true := by rw [kp22]; rfl
theorem patternRules_k23 : Rows.patternRulesRow.shortTexts.isNone = true := by kernel_rfl
theorem patternRules_k26 : (Rows.patternRulesRow.lifted == Tryd.prog.liftsFinal) = true := by rw [kp26]; rfl
theorem patternRules_k27 : (Tryd.prog.make == some Rows.patternRulesRow.make) = true := by rw [kp27]; rfl
theorem patternRules_k28 : (Rows.patternRulesRow.kinds == (if Rows.patternRulesRow.domain.isEmpty then [] else Tryd.f9.params.toList.map fun t => match Tryd.prog.underlying t with | some (.int k) => some k | _ => none)) = true := by kernel_rfl
theorem patternRules_k29 : (Rows.patternRulesRow.pinned == Rows.patternRulesRow.pinnedBy) = true := by kernel_rfl
theorem patternRules_k30 : (Rows.patternRulesRow.veiled == (Tryd.f9.params.toList ++ Rows.patternRulesSpec.plain.varTypes Tryd.prog ++ Tryd.f9.resultTypes.toList).any (Tryd.prog.veiledRec ·)) = true := by kernel_rfl
theorem patternRules_k31 : Rows.patternRulesRow.veiledFits Tryd.prog Tryd.f9.params.toList (Tryd.f9.params.toList ++ Rows.patternRulesSpec.plain.varTypes Tryd.prog ++ Tryd.f9.resultTypes.toList) = true := by kernel_rfl
theorem patternRules_facts : joinedFacts Tryd.prog 9 Tryd.f9 Rows.patternRulesSpec Rows.patternRulesRow = true := (andK (andK (andK (andK (andK (andK (andK (andK (andK (andK (andK (andK (andK (andK (andK (andK (andK (andK (andK (andK (andK (andK (andK (andK (andK (andK (andK (andK (andK (andK (andK patternRules_k0 kp1) kp2) patternRules_k3) patternRules_k4) patternRules_k5) kp6) patternRules_k7) kp8) patternRules_k9) patternRules_k10) patternRules_k11) patternRules_k12) patternRules_k13) patternRules_k14) patternRules_k15) patternRules_k16) patternRules_k17) patternRules_k18) patternRules_k19) patternRules_k20) patternRules_k21) patternRules_k22) patternRules_k23) kp24) kp25) patternRules_k26) patternRules_k27) patternRules_k28) patternRules_k29) patternRules_k30) patternRules_k31)
theorem patternRules_n1 : Tryd.prog.funcNamed Rows.patternRulesRow.func = some 9 := by kernel_rfl
theorem patternRules_n3 : Tryd.f9.isInstance Tryd.prog Rows.patternRulesRow.origin Rows.patternRulesRow.targs := of_decide_eq_true (by kernel_rfl)
theorem patternRules_n4 : Tryd.f9.isWrapper Tryd.prog Rows.patternRulesRow.wrapper Rows.patternRulesRow.mainSum := by unfold Func.isWrapper; first | (rw [if_pos (by decide +kernel)]; kernel_rfl) | (rw [if_neg (by decide +kernel)]; exact ⟨rfl, rfl⟩)
theorem patternRules_holds : Rows.PatternRulesSaid :=
  OpenClaim.holds_of_wide 9 Tryd.f9 rfl rfl rfl rfl rfl rfl rfl ⟨rfl, rfl, rfl, rfl, rfl⟩ rfl rfl rfl rfl rfl patternRules_n1 Tryd.func9 patternRules_facts patternRules_n3 patternRules_n4
    (fun os started H enc _ => patternRules_lifted os started H enc)
theorem patternRules_cardP : ([3, 34, 53, 63].all fun u => !Tryd.prog.wantsStandIn u) = true := by kernel_rfl
theorem patternRules_card : Rows.PatternRulesCardSaid :=
  Claim7.holds_tied_plain_at .later [] [.data, .data] true (true, "e800a76e7a4ae78992b3357b7156831b380a7cdf5ea6d41e53df4801c27e8aed") false patternRules_holds (fun _ h => by cases h) (by kernel_rfl) (fun _ h => by cases h) patternRules_row_tie rfl ⟨rfl, rfl⟩ (by kernel_rfl) rfl
    (fun f fn hf hfn => by
      obtain rfl : f = 9 := Option.some.inj (patternRules_n1.symm.trans hf) |>.symm
      obtain rfl : fn = Tryd.f9 := (Option.some.inj (Tryd.func9.symm.trans hfn)).symm
      exact ⟨by kernel_rfl, fun j t ht => by
        rw [Tryd.params9] at ht
        have hm : t ∈ [3, 34, 53, 63] := by simpa using Array.mem_of_getElem? ht
        exact (show Tryd.prog.wantsStandIn t = false by simpa using List.all_eq_true.1 patternRules_cardP t hm)⟩)
    (by kernel_rfl)
#print axioms patternRules_card
#print axioms patternRules_holds
end Go.Proofs.YtdhkdnmefeeclaaDoor
