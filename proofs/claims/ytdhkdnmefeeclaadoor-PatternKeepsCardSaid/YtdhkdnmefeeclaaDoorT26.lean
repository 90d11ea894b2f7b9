/- The law PatternKeeps is true of every input; no conditions. -/
import Derived.Test.YtdhkdnmefeeclaaDoorTie
import Derived.Test.YtdhkdnmefeeclaaDoorCards
import Derived.SevenTiedAt
import Derived.WalkKit
import Derived.ProofKit
import Derived.OpenShut
import Derived.ShutString
import Derived.ChangeOld
import Derived.Below
import Derived.Test.YtdhkdnmefeeclaaDoorED
import Derived.Test.YtdhkdnmefeeclaaDoorK0
import Derived.Test.YtdhkdnmefeeclaaDoorKPK
set_option linter.unusedSimpArgs false
set_option linter.unusedVariables false
set_option linter.unnecessarySimpa false
set_option linter.unusedVariables false
set_option maxRecDepth 100000
set_option maxHeartbeats 4000000
namespace Go.Proofs.YtdhkdnmefeeclaaDoor
open Go Go.Am Go.Proofs Go.RowKit Go.Off
open Go.ChangeShapes Go.WideShapes Go.ChangeAt
open Go.ChangeMaps (open_string shut_string)

set_option maxRecDepth 100000 in
theorem patternKeeps_lifted (os : Os) (started : os.Started) (H : Type) (enc : TypeId × Value → H) :
    ReturnsInHanded {} Tryd.checked os 7 .any (fun w args => (Rows.patternKeepsSpec.pre enc Tryd.prog Tryd.f7 Rows.patternKeepsRow.domain false w args ∧ laidMetH Tryd.prog laidD w) ∧ sizedMet enc Tryd.prog Tryd.f7 (OpenSpec.ofChange Rows.patternKeepsSpec) false w args) (Rows.patternKeepsSpec.post enc Tryd.prog Tryd.f7 false true false false) := by
  refine returnsInHanded_of_change_and (C := Tryd.checked) (X := fun w _ => laidMetH Tryd.prog laidD w) (fun _ _ _ hh h => h.of_heap hh) ownK started (by kernel_rfl) Tryd.func7
    (ChangeSpec.witness_shaped (enc := enc) (C := Tryd.checked) (os := os) (X := fun w _ => laidMetH Tryd.prog laidD w) false (World.laidAll Tryd.prog os laidD) #[.slice none 0 0, .int .i64 0] 8 (World.laidAll_os _ _ _)
      (World.shaped_of_ZipB (by kernel_rfl) (by kernel_rfl)) (by kernel_rfl) (by kernel_rfl) (by kernel_rfl) (witD os _)) ?_
  intro W base args ds gs before hval0 hW hcnd _ hL _
  have hval : ∀ (j : Nat) t v, Tryd.f7.params[j]? = some t → args[j]? = some v → Value.okWide Tryd.prog W .any base t v := hval0
  have hW' := hW
  obtain ⟨p, q, hA0, hV, rfl, hfz, hnd⟩ := hW
  have hA : DataW.TrodAll enc Tryd.prog W 0 (fun _ => true) true Tryd.f7.params.toList args.toList ds p := hA0
  rw [Tryd.params7] at hA hval
  obtain ⟨v0, vs0, d0, ds0, p0, q0, hargs, rfl, rfl, h0, r0⟩ := trodAll_cons hA
  obtain ⟨v1, vs1, d1, ds1, p1, q1, rfl, rfl, rfl, h1, r1⟩ := trodAll_cons r0
  obtain ⟨rfl, rfl, rfl⟩ := trodAll_nil r1
  obtain rfl : args = #[v0, v1] := by cases args; simp_all
  obtain ⟨rfl, rfl⟩ := trodVars_none hV
  obtain ⟨x0, l0, c0, rfl⟩ := okWide_slice Tryd.underlying53 (hval 0 53 v0 rfl rfl)
  have lt0 : ∀ x ∈ p0, x.block < W.heap.size := by obtain ⟨m, hm⟩ := h0; exact DataW.trod_lt m _ _ _ hm
  obtain ⟨z1, rfl, rfl, rfl, wz1⟩ := open_int Tryd.underlying3 (hval 1 3 v1 rfl rfl) h1
  obtain ⟨y0, ⟨a0, b0, e0⟩, w0⟩ := avr_cell rd_rules h0 rfl
  have w1 : AVR W (fun _ => False) [] hd00 (.one (.c (.val (.int .i64 z1)))) (.int .i64 z1) := .one _ _ (.c _ _ (.val _ rfl))
  have b1 : -9223372036854775808 ≤ z1 ∧ z1 ≤ 9223372036854775807 := by simpa [Lit.wf, IntKind.min, IntKind.max, IntKind.signed, IntKind.bits] using wz1
  cases e0
  clear hA0 hval0
  refine (law_calls (patternKeeps_C a0 z1 b1.2) (laidD_tab hL) (.cons w0 (.cons w1 .nil))).mono fun e W' ⟨he, bel⟩ => ?_
  subst he
  exact ⟨_, rfl, _, _, _, [], _, [], hW', trodAll_mk1 (shut_bool Tryd.underlying4 _), (trodAll_cons_mk (Below.trod laidK (by kernel_rfl) (of_decide_eq_true (by kernel_rfl)) h0 bel lt0) (trodAll_cons_mk (shut_int Tryd.underlying3 wz1) trodAll_mk0)), rfl, bel.frame _, fun h => by cases h⟩

theorem patternKeeps_k0 : Rows.patternKeepsRow.wf (OpenSpec.ofChange Rows.patternKeepsSpec) = true := by kernel_rfl
theorem patternKeeps_k3 : Tryd.f7.params.all (Tryd.prog.readableRec ·) = true := by kernel_rfl
theorem patternKeeps_k4 : namedTie Tryd.prog Rows.patternKeepsRow.named Rows.patternKeepsSpec.vars = true := by kernel_rfl
theorem patternKeeps_k5 : (Rows.patternKeepsRow.stops == []) = true := by kernel_rfl
theorem patternKeeps_k7 : (Rows.patternKeepsRow.knobs == []) = true := by kernel_rfl
theorem patternKeeps_k9 : (Rows.patternKeepsRow.inPlace == Tryd.prog.inPlace 7) = true := by kernel_rfl
theorem patternKeeps_k10 : (Rows.patternKeepsRow.unfollowed == Tryd.prog.unfollowed 7) = true := by kernel_rfl
theorem patternKeeps_k11 : (Rows.patternKeepsRow.recurses == Tryd.prog.recurses 7) = true := by kernel_rfl
theorem patternKeeps_k12 : (Rows.patternKeepsRow.named == Tryd.prog.varsNamed 7) = true := by kernel_rfl
theorem patternKeeps_k13 : (Rows.patternKeepsRow.maps == (Tryd.f7.params.toList ++ Rows.patternKeepsSpec.plain.varTypes Tryd.prog).any (Tryd.prog.mapsRec ·)) = true := by kernel_rfl
theorem patternKeeps_k14 : (Rows.patternKeepsRow.ifaces == (Tryd.f7.params.toList ++ Rows.patternKeepsSpec.plain.varTypes Tryd.prog).any (Tryd.prog.ifacesRec ·)) = true := by kernel_rfl
theorem patternKeeps_k15 : (Rows.patternKeepsRow.mapsOut == Tryd.prog.mapsAmong Tryd.f7.resultTypes.toList) = true := by kernel_rfl
theorem patternKeeps_k16 : (Rows.patternKeepsRow.loops == (Tryd.f7.params.toList ++ Rows.patternKeepsSpec.plain.varTypes Tryd.prog).any (Tryd.prog.loopsFrom ·)) = true := by kernel_rfl
theorem patternKeeps_k17 : (Rows.patternKeepsRow.wideKeys == (Tryd.f7.params.toList ++ Rows.patternKeepsSpec.plain.varTypes Tryd.prog ++ Tryd.f7.resultTypes.toList).any (Tryd.prog.wideKeysFrom ·)) = true := by kernel_rfl
theorem patternKeeps_k18 : Rows.patternKeepsSpec.vars.all (Tryd.prog.varReadable ·) = true := by kernel_rfl
theorem patternKeeps_k19 : Tryd.f7.resultTypes.all (fun t => Tryd.prog.readableRec t && decide (t < Tryd.prog.types.size)) = true := by kernel_rfl
theorem patternKeeps_k20 : (Rows.patternKeepsRow.ifacesOut == Tryd.f7.resultTypes.toList.any (Tryd.prog.ifacesRec ·)) = true := by kernel_rfl
theorem patternKeeps_k21 : (Rows.patternKeepsRow.loopsOut == Tryd.f7.resultTypes.toList.any (Tryd.prog.loopsFrom ·)) = true := by kernel_rfl
theorem patternKeeps_k22 : (Rows.patternKeepsRow.plainKeys == Tryd.prog.plainKeys) = true := by rw [kp22]; rfl
theorem patternKeeps_k23 : Rows.patternKeepsRow.shortTexts.isNone = true := by kernel_rfl
theorem patternKeeps_k26 : (Rows.patternKeepsRow.lifted == Tryd.prog.liftsFinal) = true := by rw [kp26]; rfl
theorem patternKeeps_k27 : (Tryd.prog.make == some Rows.patternKeepsRow.make) = true := by rw [kp27]; rfl
theorem patternKeeps_k28 : (Rows.patternKeepsRow.kinds == (if Rows.patternKeepsRow.domain.isEmpty then [] else Tryd.f7.params.toList.map fun t => match Tryd.prog.underlying t with | some (.int k) => some k | _ => none)) = true := by kernel_rfl
theorem patternKeeps_k29 : (Rows.patternKeepsRow.pinned == Rows.patternKeepsRow.pinnedBy) = true := by kernel_rfl
theorem patternKeeps_k30 : (Rows.patternKeepsRow.veiled == (Tryd.f7.params.toList ++ Rows.patternKeepsSpec.plain.varTypes Tryd.prog ++ Tryd.f7.resultTypes.toList).any (Tryd.prog.veiledRec ·)) = true := by kernel_rfl
theorem patternKeeps_k31 : Rows.patternKeepsRow.veiledFits Tryd.prog Tryd.f7.params.toList (Tryd.f7.params.toList ++ Rows.patternKeepsSpec.plain.varTypes Tryd.prog ++ Tryd.f7.resultTypes.toList) = true := by kernel_rfl
theorem patternKeeps_facts : joinedFacts Tryd.prog 7 Tryd.f7 Rows.patternKeepsSpec Rows.patternKeepsRow = true := (andK (andK (andK (andK (andK (andK (andK (andK (andK (andK (andK (andK (andK (andK (andK (andK (andK (andK (andK (andK (andK (andK (andK (andK (andK (andK (andK (andK (andK (andK (andK patternKeeps_k0 kp1) kp2) patternKeeps_k3) patternKeeps_k4) patternKeeps_k5) kp6) patternKeeps_k7) kp8) patternKeeps_k9) patternKeeps_k10) patternKeeps_k11) patternKeeps_k12) patternKeeps_k13) patternKeeps_k14) patternKeeps_k15) patternKeeps_k16) patternKeeps_k17) patternKeeps_k18) patternKeeps_k19) patternKeeps_k20) patternKeeps_k21) patternKeeps_k22) patternKeeps_k23) kp24) kp25) patternKeeps_k26) patternKeeps_k27) patternKeeps_k28) patternKeeps_k29) patternKeeps_k30) patternKeeps_k31)
theorem patternKeeps_n1 : Tryd.prog.funcNamed Rows.patternKeepsRow.func = some 7 := by kernel_rfl
theorem patternKeeps_n3 : Tryd.f7.isInstance Tryd.prog Rows.patternKeepsRow.origin Rows.patternKeepsRow.targs := of_decide_eq_true (by kernel_rfl)
theorem patternKeeps_n4 : Tryd.f7.isWrapper Tryd.prog Rows.patternKeepsRow.wrapper Rows.patternKeepsRow.mainSum := by unfold Func.isWrapper; first | (rw [if_pos (by decide +kernel)]; kernel_rfl) | (rw [if_neg (by decide +kernel)]; exact ⟨rfl, rfl⟩)
theorem patternKeeps_holds : Rows.PatternKeepsSaid :=
  OpenClaim.holds_of_wide 7 Tryd.f7 rfl rfl rfl rfl rfl rfl rfl ⟨rfl, rfl, rfl, rfl, rfl⟩ rfl rfl rfl rfl rfl patternKeeps_n1 Tryd.func7 patternKeeps_facts patternKeeps_n3 patternKeeps_n4
    (fun os started H enc _ => patternKeeps_lifted os started H enc)
theorem patternKeeps_cardP : ([53, 3].all fun u => !Tryd.prog.wantsStandIn u) = true := by kernel_rfl
theorem patternKeeps_card : Rows.PatternKeepsCardSaid :=
  Claim7.holds_tied_plain_at .later [] [.data, .data] true (true, "e800a76e7a4ae78992b3357b7156831b380a7cdf5ea6d41e53df4801c27e8aed") false patternKeeps_holds (fun _ h => by cases h) (by kernel_rfl) (fun _ h => by cases h) patternKeeps_row_tie rfl ⟨rfl, rfl⟩ (by kernel_rfl) rfl
    (fun f fn hf hfn => by
      obtain rfl : f = 7 := Option.some.inj (patternKeeps_n1.symm.trans hf) |>.symm
      obtain rfl : fn = Tryd.f7 := (Option.some.inj (Tryd.func7.symm.trans hfn)).symm
      exact ⟨by kernel_rfl, fun j t ht => by
        rw [Tryd.params7] at ht
        have hm : t ∈ [53, 3] := by simpa using Array.mem_of_getElem? ht
        exact (show Tryd.prog.wantsStandIn t = false by simpa using List.all_eq_true.1 patternKeeps_cardP t hm)⟩)
    (by kernel_rfl)
#print axioms patternKeeps_card
#print axioms patternKeeps_holds
end Go.Proofs.YtdhkdnmefeeclaaDoor
