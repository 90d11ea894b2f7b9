/- The law PairsSums is true of every input; no conditions. -/
import Derived.Test.YtdhkdnmefeeclaaDoorTie
import Derived.Test.YtdhkdnmefeeclaaDoorCards
import Derived.SevenTiedAt
import Derived.WalkKit
import Derived.ProofKit
import Derived.OpenShut
import Derived.ShutString
import Derived.ChangeOld
import Derived.Below
import Derived.Test.YtdhkdnmefeeclaaDoorE19
import Derived.Test.YtdhkdnmefeeclaaDoorK0
import Derived.Test.YtdhkdnmefeeclaaDoorKSU
set_option linter.unusedSimpArgs false
set_option linter.unusedVariables false
set_option linter.unnecessarySimpa false
set_option linter.unusedVariables false
set_option maxRecDepth 100000
set_option maxHeartbeats 4000000
namespace Go.Proofs.YtdhkdnmefeeclaaDoor
open Go Go.Am Go.Proofs Go.RowKit Go.Off
open Go.ChangeShapes Go.WideShapes Go.ChangeAt
open Go.ChangeMaps (open_string shut_string)

set_option maxRecDepth 100000 in
theorem pairsSums_lifted (os : Os) (started : os.Started) (H : Type) (enc : TypeId × Value → H) :
    ReturnsInHanded {} Tryd.checked os 6 .any (fun w args => (Rows.pairsSumsSpec.pre enc Tryd.prog Tryd.f6 Rows.pairsSumsRow.domain false w args ∧ laidMetH Tryd.prog laidD w) ∧ sizedMet enc Tryd.prog Tryd.f6 (OpenSpec.ofChange Rows.pairsSumsSpec) false w args) (Rows.pairsSumsSpec.post enc Tryd.prog Tryd.f6 false true false false) := by
  refine returnsInHanded_of_change_and (C := Tryd.checked) (X := fun w _ => laidMetH Tryd.prog laidD w) (fun _ _ _ hh h => h.of_heap hh) ownK started (by kernel_rfl) Tryd.func6
    (ChangeSpec.witness_shaped (enc := enc) (C := Tryd.checked) (os := os) (X := fun w _ => laidMetH Tryd.prog laidD w) false (World.laidAll Tryd.prog os laidD) #[.slice none 0 0, .int .i64 0, .int .i64 0, .int .i64 0] 8 (World.laidAll_os _ _ _)
      (World.shaped_of_ZipB (by kernel_rfl) (by kernel_rfl)) (by kernel_rfl) (by kernel_rfl) (by kernel_rfl) (witD os _)) ?_
  intro W base args ds gs before hval0 hW hcnd _ hL _
  have hval : ∀ (j : Nat) t v, Tryd.f6.params[j]? = some t → args[j]? = some v → Value.okWide Tryd.prog W .any base t v := hval0
  have hW' := hW
  obtain ⟨p, q, hA0, hV, rfl, hfz, hnd⟩ := hW
  have hA : DataW.TrodAll enc Tryd.prog W 0 (fun _ => true) true Tryd.f6.params.toList args.toList ds p := hA0
  rw [Tryd.params6] at hA hval
  obtain ⟨v0, vs0, d0, ds0, p0, q0, hargs, rfl, rfl, h0, r0⟩ := trodAll_cons hA
  obtain ⟨v1, vs1, d1, ds1, p1, q1, rfl, rfl, rfl, h1, r1⟩ := trodAll_cons r0
  obtain ⟨v2, vs2, d2, ds2, p2, q2, rfl, rfl, rfl, h2, r2⟩ := trodAll_cons r1
  obtain ⟨v3, vs3, d3, ds3, p3, q3, rfl, rfl, rfl, h3, r3⟩ := trodAll_cons r2
  obtain ⟨rfl, rfl, rfl⟩ := trodAll_nil r3
  obtain rfl : args = #[v0, v1, v2, v3] := by cases args; simp_all
  obtain ⟨rfl, rfl⟩ := trodVars_none hV
  obtain ⟨x0, l0, c0, rfl⟩ := okWide_slice Tryd.underlying22 (hval 0 22 v0 rfl rfl)
  have lt0 : ∀ x ∈ p0, x.block < W.heap.size := by obtain ⟨m, hm⟩ := h0; exact DataW.trod_lt m _ _ _ hm
  obtain ⟨z1, rfl, rfl, rfl, wz1⟩ := open_int Tryd.underlying3 (hval 1 3 v1 rfl rfl) h1
  obtain ⟨z2, rfl, rfl, rfl, wz2⟩ := open_int Tryd.underlying3 (hval 2 3 v2 rfl rfl) h2
  obtain ⟨z3, rfl, rfl, rfl, wz3⟩ := open_int Tryd.underlying3 (hval 3 3 v3 rfl rfl) h3
  obtain ⟨y0, ⟨a0, b0, e0⟩, w0⟩ := avr_cell rd_parts h0 rfl
  have w1 : AVR W (fun _ => False) [] hd00 (.one (.c (.val (.int .i64 z1)))) (.int .i64 z1) := .one _ _ (.c _ _ (.val _ rfl))
  have b1 : -9223372036854775808 ≤ z1 ∧ z1 ≤ 9223372036854775807 := by simpa [Lit.wf, IntKind.min, IntKind.max, IntKind.signed, IntKind.bits] using wz1
  have w2 : AVR W (fun _ => False) [] hd00 (.one (.c (.val (.int .i64 z2)))) (.int .i64 z2) := .one _ _ (.c _ _ (.val _ rfl))
  have b2 : -9223372036854775808 ≤ z2 ∧ z2 ≤ 9223372036854775807 := by simpa [Lit.wf, IntKind.min, IntKind.max, IntKind.signed, IntKind.bits] using wz2
  have w3 : AVR W (fun _ => False) [] hd00 (.one (.c (.val (.int .i64 z3)))) (.int .i64 z3) := .one _ _ (.c _ _ (.val _ rfl))
  have b3 : -9223372036854775808 ≤ z3 ∧ z3 ≤ 9223372036854775807 := by simpa [Lit.wf, IntKind.min, IntKind.max, IntKind.signed, IntKind.bits] using wz3
  cases e0
  clear hA0 hval0
  refine (law_calls (pairsSums_C a0 z1 z2 z3 (fun p hp => (b0 p hp).2)) (laidD_tab hL) (.cons w0 (.cons w1 (.cons w2 (.cons w3 .nil))))).mono fun e W' ⟨he, bel⟩ => ?_
  subst he
  exact ⟨_, rfl, _, _, _, [], _, [], hW', trodAll_mk1 (shut_bool Tryd.underlying4 _), (trodAll_cons_mk (Below.trod laidK (by kernel_rfl) (of_decide_eq_true (by kernel_rfl)) h0 bel lt0) (trodAll_cons_mk (shut_int Tryd.underlying3 wz1) (trodAll_cons_mk (shut_int Tryd.underlying3 wz2) (trodAll_cons_mk (shut_int Tryd.underlying3 wz3) trodAll_mk0)))), rfl, bel.frame _, fun h => by cases h⟩

theorem pairsSums_k0 : Rows.pairsSumsRow.wf (OpenSpec.ofChange Rows.pairsSumsSpec) = true := by kernel_rfl
theorem pairsSums_k3 : Tryd.f6.params.all (Tryd.prog.readableRec ·) = true := by kernel_rfl
theorem pairsSums_k4 : namedTie Tryd.prog Rows.pairsSumsRow.named Rows.pairsSumsSpec.vars = true := by kernel_rfl
theorem pairsSums_k5 : (Rows.pairsSumsRow.stops == []) = true := by kernel_rfl
theorem pairsSums_k7 : (Rows.pairsSumsRow.knobs == []) = true := by kernel_rfl
theorem pairsSums_k9 : (Rows.pairsSumsRow.inPlace == Tryd.prog.inPlace 6) = true := by kernel_rfl
theorem pairsSums_k10 : (Rows.pairsSumsRow.unfollowed == Tryd.prog.unfollowed 6) = true := by kernel_rfl
theorem pairsSums_k11 : (Rows.pairsSumsRow.recurses == Tryd.prog.recurses 6) = true := by kernel_rfl
theorem pairsSums_k12 : (Rows.pairsSumsRow.named == Tryd.prog.varsNamed 6) = true := by kernel_rfl
theorem pairsSums_k13 : (Rows.pairsSumsRow.maps == (Tryd.f6.params.toList ++ Rows.pairsSumsSpec.plain.varTypes Tryd.prog).any (Tryd.prog.mapsRec ·)) = true := by kernel_rfl
theorem pairsSums_k14 : (Rows.pairsSumsRow.ifaces == (Tryd.f6.params.toList ++ Rows.pairsSumsSpec.plain.varTypes Tryd.prog).any (Tryd.prog.ifacesRec ·)) = true := by kernel_rfl
theorem pairsSums_k15 : (Rows.pairsSumsRow.mapsOut == Tryd.prog.mapsAmong Tryd.f6.resultTypes.toList) = true := by kernel_rfl
theorem pairsSums_k16 : (Rows.pairsSumsRow.loops == (Tryd.f6.params.toList ++ Rows.pairsSumsSpec.plain.varTypes Tryd.prog).any (Tryd.prog.loopsFrom ·)) = true := by kernel_rfl
theorem pairsSums_k17 : (Rows.pairsSumsRow.wideKeys == (Tryd.f6.params.toList ++ Rows.pairsSumsSpec.plain.varTypes Tryd.prog ++ Tryd.f6.resultTypes.toList).any (Tryd.prog.wideKeysFrom ·)) = true := by kernel_rfl
theorem pairsSums_k18 : Rows.pairsSumsSpec.vars.all (Tryd.prog.varReadable ·) = true := by kernel_rfl
theorem pairsSums_k19 : Tryd.f6.resultTypes.all (fun t => Tryd.prog.readableRec t && decide (t < Tryd.prog.types.size)) = true := by kernel_rfl
theorem pairsSums_k20 : (Rows.pairsSumsRow.ifacesOut == Tryd.f6.resultTypes.toList.any (Tryd.prog.ifacesRec ·)) = true := by kernel_rfl
theorem pairsSums_k21 : (Rows.pairsSumsRow.loopsOut == Tryd.f6.resultTypes.toList.any (Tryd.prog.loopsFrom ·)) = true := by kernel_rfl
theorem pairsSums_k22 : (Rows.pairsSumsRow.plainKeys == Tryd.prog.plainKeys) = true := by rw [kp22]; rfl
theorem pairsSums_k23 : Rows.pairsSumsRow.shortTexts.isNone = true := by kernel_rfl
theorem pairsSums_k26 : (Rows.pairsSumsRow.lifted == Tryd.prog.liftsFinal) = true := by rw [kp26]; rfl
theorem pairsSums_k27 : (Tryd.prog.make == some Rows.pairsSumsRow.make) = true := by rw [kp27]; rfl
theorem pairsSums_k28 : (Rows.pairsSumsRow.kinds == (if Rows.pairsSumsRow.domain.isEmpty then [] else Tryd.f6.params.toList.map fun t => match Tryd.prog.underlying t with | some (.int k) => some k | _ => none)) = true := by kernel_rfl
theorem pairsSums_k29 : (Rows.pairsSumsRow.pinned == Rows.pairsSumsRow.pinnedBy) = true := by kernel_rfl
theorem pairsSums_k30 : (Rows.pairsSumsRow.veiled == (Tryd.f6.params.toList ++ Rows.pairsSumsSpec.plain.varTypes Tryd.prog ++ Tryd.f6.resultTypes.toList).any (Tryd.prog.veiledRec ·)) = true := by kernel_rfl
theorem pairsSums_k31 : Rows.pairsSumsRow.veiledFits Tryd.prog Tryd.f6.params.toList (Tryd.f6.params.toList ++ Rows.pairsSumsSpec.plain.varTypes Tryd.prog ++ Tryd.f6.resultTypes.toList) = true := by kernel_rfl
theorem pairsSums_facts : joinedFacts Tryd.prog 6 Tryd.f6 Rows.pairsSumsSpec Rows.pairsSumsRow = true := (andK (andK (andK (andK (andK (andK (andK (andK (andK (andK (andK (andK (andK (andK (andK (andK (andK (andK (andK (andK (andK (andK (andK (andK (andK (andK (andK (andK (andK (andK (andK pairsSums_k0 kp1) kp2) pairsSums_k3) pairsSums_k4) pairsSums_k5) kp6) pairsSums_k7) kp8) pairsSums_k9) pairsSums_k10) pairsSums_k11) pairsSums_k12) pairsSums_k13) pairsSums_k14) pairsSums_k15) pairsSums_k16) pairsSums_k17) pairsSums_k18) pairsSums_k19) pairsSums_k20) pairsSums_k21) pairsSums_k22) pairsSums_k23) kp24) kp25) pairsSums_k26) pairsSums_k27) pairsSums_k28) pairsSums_k29) pairsSums_k30) pairsSums_k31)
theorem pairsSums_n1 : Tryd.prog.funcNamed Rows.pairsSumsRow.func = some 6 := by kernel_rfl
theorem pairsSums_n3 : Tryd.f6.isInstance Tryd.prog Rows.pairsSumsRow.origin Rows.pairsSumsRow.targs := of_decide_eq_true (by kernel_rfl)
theorem pairsSums_n4 : Tryd.f6.isWrapper Tryd.prog Rows.pairsSumsRow.wrapper Rows.pairsSumsRow.mainSum := by unfold Func.isWrapper; first | (rw [if_pos (by decide +kernel)]; kernel_rfl) | (rw [if_neg (by decide +kernel)]; exact ⟨rfl, rfl⟩)
theorem pairsSums_holds : Rows.PairsSumsSaid :=
  OpenClaim.holds_of_wide 6 Tryd.f6 rfl rfl rfl rfl rfl rfl rfl ⟨rfl, rfl, rfl, rfl, rfl⟩ rfl rfl rfl rfl rfl pairsSums_n1 Tryd.func6 pairsSums_facts pairsSums_n3 pairsSums_n4
    (fun os started H enc _ => pairsSums_lifted os started H enc)
theorem pairsSums_cardP : ([22, 3, 3, 3].all fun u => !Tryd.prog.wantsStandIn u) = true := by kernel_rfl
theorem pairsSums_card : Rows.PairsSumsCardSaid :=
  Claim7.holds_tied_plain_at .later [] [.data, .data] true (true, "e800a76e7a4ae78992b3357b7156831b380a7cdf5ea6d41e53df4801c27e8aed") false pairsSums_holds (fun _ h => by cases h) (by kernel_rfl) (fun _ h => by cases h) pairsSums_row_tie rfl ⟨rfl, rfl⟩ (by kernel_rfl) rfl
    (fun f fn hf hfn => by
      obtain rfl : f = 6 := Option.some.inj (pairsSums_n1.symm.trans hf) |>.symm
      obtain rfl : fn = Tryd.f6 := (Option.some.inj (Tryd.func6.symm.trans hfn)).symm
      exact ⟨by kernel_rfl, fun j t ht => by
        rw [Tryd.params6] at ht
        have hm : t ∈ [22, 3, 3, 3] := by simpa using Array.mem_of_getElem? ht
        exact (show Tryd.prog.wantsStandIn t = false by simpa using List.all_eq_true.1 pairsSums_cardP t hm)⟩)
    (by kernel_rfl)
#print axioms pairsSums_card
#print axioms pairsSums_holds
end Go.Proofs.YtdhkdnmefeeclaaDoor
