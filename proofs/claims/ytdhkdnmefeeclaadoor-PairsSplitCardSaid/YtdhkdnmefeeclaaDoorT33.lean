/- The law PairsSplit is true of every input; no conditions. -/
import Derived.Test.YtdhkdnmefeeclaaDoorTie
import Derived.Test.YtdhkdnmefeeclaaDoorCards
import Derived.SevenTiedAt
import Derived.WalkKit
import Derived.ProofKit
import Derived.OpenShut
import Derived.ShutString
import Derived.ChangeOld
import Derived.Below
import Derived.Test.YtdhkdnmefeeclaaDoorE19
import Derived.Test.YtdhkdnmefeeclaaDoorK0
import Derived.Test.YtdhkdnmefeeclaaDoorKSP
set_option linter.unusedSimpArgs false
set_option linter.unusedVariables false
set_option linter.unnecessarySimpa false
set_option linter.unusedVariables false
set_option maxRecDepth 100000
set_option maxHeartbeats 4000000
namespace Go.Proofs.YtdhkdnmefeeclaaDoor
open Go Go.Am Go.Proofs Go.RowKit Go.Off
open Go.ChangeShapes Go.WideShapes Go.ChangeAt
open Go.ChangeMaps (open_string shut_string)

set_option maxRecDepth 100000 in
theorem pairsSplit_lifted (os : Os) (started : os.Started) (H : Type) (enc : TypeId × Value → H) :
    ReturnsInHanded {} Tryd.checked os 3 .any (fun w args => (Rows.pairsSplitSpec.pre enc Tryd.prog Tryd.f3 Rows.pairsSplitRow.domain false w args ∧ laidMetH Tryd.prog laidD w) ∧ sizedMet enc Tryd.prog Tryd.f3 (OpenSpec.ofChange Rows.pairsSplitSpec) false w args) (Rows.pairsSplitSpec.post enc Tryd.prog Tryd.f3 false true false false) := by
  refine returnsInHanded_of_change_and (C := Tryd.checked) (X := fun w _ => laidMetH Tryd.prog laidD w) (fun _ _ _ hh h => h.of_heap hh) ownK started (by kernel_rfl) Tryd.func3
    (ChangeSpec.witness_shaped (enc := enc) (C := Tryd.checked) (os := os) (X := fun w _ => laidMetH Tryd.prog laidD w) false (World.laidAll Tryd.prog os laidD) #[.slice none 0 0, .int .i64 0] 8 (World.laidAll_os _ _ _)
      (World.shaped_of_ZipB (by kernel_rfl) (by kernel_rfl)) (by kernel_rfl) (by kernel_rfl) (by kernel_rfl) (witD os _)) ?_
  intro W base args ds gs before hval0 hW hcnd _ hL _
  have hval : ∀ (j : Nat) t v, Tryd.f3.params[j]? = some t → args[j]? = some v → Value.okWide Tryd.prog W .any base t v := hval0
  have hW' := hW
  obtain ⟨p, q, hA0, hV, rfl, hfz, hnd⟩ := hW
  have hA : DataW.TrodAll enc Tryd.prog W 0 (fun _ => true) true Tryd.f3.params.toList args.toList ds p := hA0
  rw [Tryd.params3] at hA hval
  obtain ⟨v0, vs0, d0, ds0, p0, q0, hargs, rfl, rfl, h0, r0⟩ := trodAll_cons hA
  obtain ⟨v1, vs1, d1, ds1, p1, q1, rfl, rfl, rfl, h1, r1⟩ := trodAll_cons r0
  obtain ⟨rfl, rfl, rfl⟩ := trodAll_nil r1
  obtain rfl : args = #[v0, v1] := by cases args; simp_all
  obtain ⟨rfl, rfl⟩ := trodVars_none hV
  obtain ⟨x0, l0, c0, rfl⟩ := okWide_slice Tryd.underlying22 (hval 0 22 v0 rfl rfl)
  have lt0 : ∀ x ∈ p0, x.block < W.heap.size := by obtain ⟨m, hm⟩ := h0; exact DataW.trod_lt m _ _ _ hm
  obtain ⟨z1, rfl, rfl, rfl, wz1⟩ := open_int Tryd.underlying3 (hval 1 3 v1 rfl rfl) h1
  obtain ⟨y0, ⟨a0, b0, e0⟩, w0⟩ := avr_cell rd_parts h0 rfl
  have w1 : AVR W (fun _ => False) [] hd00 (.one (.c (.val (.int .i64 z1)))) (.int .i64 z1) := .one _ _ (.c _ _ (.val _ rfl))
  have b1 : -9223372036854775808 ≤ z1 ∧ z1 ≤ 9223372036854775807 := by simpa [Lit.wf, IntKind.min, IntKind.max, IntKind.signed, IntKind.bits] using wz1
  cases e0
  clear hA0 hval0
  refine (law_calls (pairsSplit_C a0 z1 b1 (fun p hp => (b0 p hp).2)) (laidD_tab hL) (.cons w0 (.cons w1 .nil))).mono fun e W' ⟨he, bel⟩ => ?_
  subst he
  exact ⟨_, rfl, _, _, _, [], _, [], hW', trodAll_mk1 (shut_bool Tryd.underlying4 _), (trodAll_cons_mk (Below.trod laidK (by kernel_rfl) (of_decide_eq_true (by kernel_rfl)) h0 bel lt0) (trodAll_cons_mk (shut_int Tryd.underlying3 wz1) trodAll_mk0)), rfl, bel.frame _, fun h => by cases h⟩

theorem pairsSplit_k0 : Rows.pairsSplitRow.wf (OpenSpec.ofChange Rows.pairsSplitSpec) = true := by kernel_rfl
theorem pairsSplit_k3 : Tryd.f3.params.all (Tryd.prog.readableRec ·) = true := by kernel_rfl
theorem pairsSplit_k4 : namedTie Tryd.prog Rows.pairsSplitRow.named Rows.pairsSplitSpec.vars = true := by kernel_rfl
theorem pairsSplit_k5 : (Rows.pairsSplitRow.stops == []) = true := by kernel_rfl
theorem pairsSplit_k7 : (Rows.pairsSplitRow.knobs == []) = true := by kernel_rfl
theorem pairsSplit_k9 : (Rows.pairsSplitRow.inPlace == Tryd.prog.inPlace 3) = true := by kernel_rfl
theorem pairsSplit_k10 : (Rows.pairsSplitRow.unfollowed == Tryd.prog.unfollowed 3) = true := by kernel_rfl
theorem pairsSplit_k11 : (Rows.pairsSplitRow.recurses == Tryd.prog.recurses 3) = true := by kernel_rfl
theorem pairsSplit_k12 : (Rows.pairsSplitRow.named == Tryd.prog.varsNamed 3) = true := by kernel_rfl
theorem pairsSplit_k13 : (Rows.pairsSplitRow.maps == (Tryd.f3.params.toList ++ Rows.pairsSplitSpec.plain.varTypes Tryd.prog).any (Tryd.prog.mapsRec ·)) = true := by kernel_rfl
theorem pairsSplit_k14 : (Rows.pairsSplitRow.ifaces == (Tryd.f3.params.toList ++ Rows.pairsSplitSpec.plain.varTypes Tryd.prog).any (Tryd.prog.ifacesRec ·)) = true := by kernel_rfl
theorem pairsSplit_k15 : (Rows.pairsSplitRow.mapsOut == Tryd.prog.mapsAmong Tryd.f3.resultTypes.toList) = true := by kernel_rfl
theorem pairsSplit_k16 : (Rows.pairsSplitRow.loops == (Tryd.f3.params.toList ++ Rows.pairsSplitSpec.plain.varTypes Tryd.prog).any (Tryd.prog.loopsFrom ·)) = true := by kernel_rfl
theorem pairsSplit_k17 : (Rows.pairsSplitRow.wideKeys == (Tryd.f3.params.toList ++ Rows.pairsSplitSpec.plain.varTypes Tryd.prog ++ Tryd.f3.resultTypes.toList).any (Tryd.prog.wideKeysFrom ·)) = true := by kernel_rfl
theorem pairsSplit_k18 : Rows.pairsSplitSpec.vars.all (Tryd.prog.varReadable ·) = true := by kernel_rfl
theorem pairsSplit_k19 : Tryd.f3.resultTypes.all (fun t => Tryd.prog.readableRec t && decide (t < Tryd.prog.types.size)) = true := by kernel_rfl
theorem pairsSplit_k20 : (Rows.pairsSplitRow.ifacesOut == Tryd.f3.resultTypes.toList.any (Tryd.prog.ifacesRec ·)) = true := by kernel_rfl
theorem pairsSplit_k21 : (Rows.pairsSplitRow.loopsOut == Tryd.f3.resultTypes.toList.any (Tryd.prog.loopsFrom ·)) = true := by kernel_rfl
theorem pairsSplit_k22 : (Rows.pairsSplitRow.plainKeys == Tryd.prog.plainKeys) = true := by rw [kp22]; rfl
theorem pairsSplit_k23 : Rows.pairsSplitRow.shortTexts.isNone = true := by kernel_rfl
theorem pairsSplit_k26 : (Rows.pairsSplitRow.lifted == Tryd.prog.liftsFinal) = true := by rw [kp26]; rfl
theorem pairsSplit_k27 : (Tryd.prog.make == some Rows.pairsSplitRow.make) = true := by rw [kp27]; rfl
theorem pairsSplit_k28 : (Rows.pairsSplitRow.kinds == (if Rows.pairsSplitRow.domain.isEmpty then [] else Tryd.f3.params.toList.map fun t => match Tryd.prog.underlying t with | some (.int k) => some k | _ => none)) = true := by kernel_rfl
theorem pairsSplit_k29 : (Rows.pairsSplitRow.pinned == Rows.pairsSplitRow.pinnedBy) = true := by kernel_rfl
theorem pairsSplit_k30 : (Rows.pairsSplitRow.veiled == (Tryd.f3.params.toList ++ Rows.pairsSplitSpec.plain.varTypes Tryd.prog ++ Tryd.f3.resultTypes.toList).any (Tryd.prog.veiledRec ·)) = true := by kernel_rfl
theorem pairsSplit_k31 : Rows.pairsSplitRow.veiledFits Tryd.prog Tryd.f3.params.toList (Tryd.f3.params.toList ++ Rows.pairsSplitSpec.plain.varTypes Tryd.prog ++ Tryd.f3.resultTypes.toList) = true := by kernel_rfl
theorem pairsSplit_facts : joinedFacts Tryd.prog 3 Tryd.f3 Rows.pairsSplitSpec Rows.pairsSplitRow = true := (andK (andK (andK (andK (andK (andK (andK (andK (andK (andK (andK (andK (andK (andK (andK (andK (andK (andK (andK (andK (andK (andK (andK (andK (andK (andK (andK (andK (andK (andK (andK pairsSplit_k0 kp1) kp2) pairsSplit_k3) pairsSplit_k4) pairsSplit_k5) kp6) pairsSplit_k7) kp8) pairsSplit_k9) pairsSplit_k10) pairsSplit_k11) pairsSplit_k12) pairsSplit_k13) pairsSplit_k14) pairsSplit_k15) pairsSplit_k16) pairsSplit_k17) pairsSplit_k18) pairsSplit_k19) pairsSplit_k20) pairsSplit_k21) pairsSplit_k22) pairsSplit_k23) kp24) kp25) pairsSplit_k26) pairsSplit_k27) pairsSplit_k28) pairsSplit_k29) pairsSplit_k30) pairsSplit_k31)
theorem pairsSplit_n1 : Tryd.prog.funcNamed Rows.pairsSplitRow.func = some 3 := by kernel_rfl
theorem pairsSplit_n3 : Tryd.f3.isInstance Tryd.prog Rows.pairsSplitRow.origin Rows.pairsSplitRow.targs := of_decide_eq_true (by kernel_rfl)
theorem pairsSplit_n4 : Tryd.f3.isWrapper Tryd.prog Rows.pairsSplitRow.wrapper Rows.pairsSplitRow.mainSum := by unfold Func.isWrapper; first | (rw [if_pos (by decide +kernel)]; kernel_rfl) | (rw [if_neg (by decide +kernel)]; exact ⟨rfl, rfl⟩)
theorem pairsSplit_holds : Rows.PairsSplitSaid :=
  OpenClaim.holds_of_wide 3 Tryd.f3 rfl rfl rfl rfl rfl rfl rfl ⟨rfl, rfl, rfl, rfl, rfl⟩ rfl rfl rfl rfl rfl pairsSplit_n1 Tryd.func3 pairsSplit_facts pairsSplit_n3 pairsSplit_n4
    (fun os started H enc _ => pairsSplit_lifted os started H enc)
theorem pairsSplit_cardP : ([22, 3].all fun u => !Tryd.prog.wantsStandIn u) = true := by kernel_rfl
theorem pairsSplit_card : Rows.PairsSplitCardSaid :=
  Claim7.holds_tied_plain_at .later [] [.data, .data] true (true, "e800a76e7a4ae78992b3357b7156831b380a7cdf5ea6d41e53df4801c27e8aed") false pairsSplit_holds (fun _ h => by cases h) (by kernel_rfl) (fun _ h => by cases h) pairsSplit_row_tie rfl ⟨rfl, rfl⟩ (by kernel_rfl) rfl
    (fun f fn hf hfn => by
      obtain rfl : f = 3 := Option.some.inj (pairsSplit_n1.symm.trans hf) |>.symm
      obtain rfl : fn = Tryd.f3 := (Option.some.inj (Tryd.func3.symm.trans hfn)).symm
      exact ⟨by kernel_rfl, fun j t ht => by
        rw [Tryd.params3] at ht
        have hm : t ∈ [22, 3] := by simpa using Array.mem_of_getElem? ht
        exact (show Tryd.prog.wantsStandIn t = false by simpa using List.all_eq_true.1 pairsSplit_cardP t hm)⟩)
    (by kernel_rfl)
#print axioms pairsSplit_card
#print axioms pairsSplit_holds
end Go.Proofs.YtdhkdnmefeeclaaDoor
