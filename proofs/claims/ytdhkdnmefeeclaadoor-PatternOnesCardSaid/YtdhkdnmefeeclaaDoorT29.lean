/- The law PatternOnes is true of every input; no conditions. -/
import Derived.Test.YtdhkdnmefeeclaaDoorTie
import Derived.Test.YtdhkdnmefeeclaaDoorCards
import Derived.SevenTiedAt
import Derived.WalkKit
import Derived.ProofKit
import Derived.OpenShut
import Derived.ShutString
import Derived.ChangeOld
import Derived.Below
import Derived.Test.YtdhkdnmefeeclaaDoorED
import Derived.Test.YtdhkdnmefeeclaaDoorK0
import Derived.Test.YtdhkdnmefeeclaaDoorKON
set_option linter.unusedSimpArgs false
set_option linter.unusedVariables false
set_option linter.unnecessarySimpa false
set_option linter.unusedVariables false
set_option maxRecDepth 100000
set_option maxHeartbeats 4000000
namespace Go.Proofs.YtdhkdnmefeeclaaDoor
open Go Go.Am Go.Proofs Go.RowKit Go.Off
open Go.ChangeShapes Go.WideShapes Go.ChangeAt
open Go.ChangeMaps (open_string shut_string)

set_option maxRecDepth 100000 in
theorem patternOnes_lifted (os : Os) (started : os.Started) (H : Type) (enc : TypeId × Value → H) :
    ReturnsInHanded {} Tryd.checked os 11 .any (fun w args => (Rows.patternOnesSpec.pre enc Tryd.prog Tryd.f11 Rows.patternOnesRow.domain false w args ∧ laidMetH Tryd.prog laidD w) ∧ sizedMet enc Tryd.prog Tryd.f11 (OpenSpec.ofChange Rows.patternOnesSpec) false w args) (Rows.patternOnesSpec.post enc Tryd.prog Tryd.f11 false true false false) := by
  refine returnsInHanded_of_change_and (C := Tryd.checked) (X := fun w _ => laidMetH Tryd.prog laidD w) (fun _ _ _ hh h => h.of_heap hh) ownK started (by kernel_rfl) Tryd.func11
    (ChangeSpec.witness_shaped (enc := enc) (C := Tryd.checked) (os := os) (X := fun w _ => laidMetH Tryd.prog laidD w) false (World.laidAll Tryd.prog os laidD) #[.int .i64 0, .slice none 0 0] 8 (World.laidAll_os _ _ _)
      (World.shaped_of_ZipB (by kernel_rfl) (by kernel_rfl)) (by kernel_rfl) (by kernel_rfl) (by kernel_rfl) (witD os _)) ?_
  intro W base args ds gs before hval0 hW hcnd _ hL _
  have hval : ∀ (j : Nat) t v, Tryd.f11.params[j]? = some t → args[j]? = some v → Value.okWide Tryd.prog W .any base t v := hval0
  have hW' := hW
  obtain ⟨p, q, hA0, hV, rfl, hfz, hnd⟩ := hW
  have hA : DataW.TrodAll enc Tryd.prog W 0 (fun _ => true) true Tryd.f11.params.toList args.toList ds p := hA0
  rw [Tryd.params11] at hA hval
  obtain ⟨v0, vs0, d0, ds0, p0, q0, hargs, rfl, rfl, h0, r0⟩ := trodAll_cons hA
  obtain ⟨v1, vs1, d1, ds1, p1, q1, rfl, rfl, rfl, h1, r1⟩ := trodAll_cons r0
  obtain ⟨rfl, rfl, rfl⟩ := trodAll_nil r1
  obtain rfl : args = #[v0, v1] := by cases args; simp_all
  obtain ⟨rfl, rfl⟩ := trodVars_none hV
  obtain ⟨z0, rfl, rfl, rfl, wz0⟩ := open_int Tryd.underlying3 (hval 0 3 v0 rfl rfl) h0
  obtain ⟨x1, l1, c1, rfl⟩ := okWide_slice Tryd.underlying34 (hval 1 34 v1 rfl rfl)
  have lt1 : ∀ x ∈ p1, x.block < W.heap.size := by obtain ⟨m, hm⟩ := h1; exact DataW.trod_lt m _ _ _ hm
  have w0 : AVR W (fun _ => False) [] hd00 (.one (.c (.val (.int .i64 z0)))) (.int .i64 z0) := .one _ _ (.c _ _ (.val _ rfl))
  have b0 : -9223372036854775808 ≤ z0 ∧ z0 ≤ 9223372036854775807 := by simpa [Lit.wf, IntKind.min, IntKind.max, IntKind.signed, IntKind.bits] using wz0
  obtain ⟨y1, ⟨a1, b1, e1⟩, w1⟩ := avr_cell rd_ints h1 rfl
  cases e1
  clear hA0 hval0
  refine (law_calls (patternOnes_C z0 a1) (laidD_tab hL) (.cons w0 (.cons w1 .nil))).mono fun e W' ⟨he, bel⟩ => ?_
  subst he
  exact ⟨_, rfl, _, _, _, [], _, [], hW', trodAll_mk1 (shut_bool Tryd.underlying4 _), (trodAll_cons_mk (shut_int Tryd.underlying3 wz0) (trodAll_cons_mk (Below.trod laidK (by kernel_rfl) (of_decide_eq_true (by kernel_rfl)) h1 bel lt1) trodAll_mk0)), rfl, bel.frame _, fun h => by cases h⟩

theorem patternOnes_k0 : Rows.patternOnesRow.wf (OpenSpec.ofChange Rows.patternOnesSpec) = true := by kernel_rfl
theorem patternOnes_k3 : Tryd.f11.params.all (Tryd.prog.readableRec ·) = true := by kernel_rfl
theorem patternOnes_k4 : namedTie Tryd.prog Rows.patternOnesRow.named Rows.patternOnesSpec.vars = true := by kernel_rfl
theorem patternOnes_k5 : (Rows.patternOnesRow.stops == []) = true := by kernel_rfl
theorem patternOnes_k7 : (Rows.patternOnesRow.knobs == []) = true := by kernel_rfl
theorem patternOnes_k9 : (Rows.patternOnesRow.inPlace == Tryd.prog.inPlace 11) = true := by kernel_rfl
theorem patternOnes_k10 : (Rows.patternOnesRow.unfollowed == Tryd.prog.unfollowed 11) = true := by kernel_rfl
theorem patternOnes_k11 : (Rows.patternOnesRow.recurses == Tryd.prog.recurses 11) = true := by kernel_rfl
theorem patternOnes_k12 : (Rows.patternOnesRow.named == Tryd.prog.varsNamed 11) = true := by kernel_rfl
theorem patternOnes_k13 : (Rows.patternOnesRow.maps == (Tryd.f11.params.toList ++ Rows.patternOnesSpec.plain.varTypes Tryd.prog).any (Tryd.prog.mapsRec ·)) = true := by kernel_rfl
theorem patternOnes_k14 : (Rows.patternOnesRow.ifaces == (Tryd.f11.params.toList ++ Rows.patternOnesSpec.plain.varTypes Tryd.prog).any (Tryd.prog.ifacesRec ·)) = true := by kernel_rfl
theorem patternOnes_k15 : (Rows.patternOnesRow.mapsOut == Tryd.prog.mapsAmong Tryd.f11.resultTypes.toList) = true := by kernel_rfl
theorem patternOnes_k16 : (Rows.patternOnesRow.loops == (Tryd.f11.params.toList ++ Rows.patternOnesSpec.plain.varTypes Tryd.prog).any (Tryd.prog.loopsFrom ·)) = true := by kernel_rfl
theorem patternOnes_k17 : (Rows.patternOnesRow.wideKeys == (Tryd.f11.params.toList ++ Rows.patternOnesSpec.plain.varTypes Tryd.prog ++ Tryd.f11.resultTypes.toList).any (Tryd.prog.wideKeysFrom ·)) = true := by kernel_rfl
theorem patternOnes_k18 : Rows.patternOnesSpec.vars.all (Tryd.prog.varReadable ·) = true := by kernel_rfl
theorem patternOnes_k19 : Tryd.f11.resultTypes.all (fun t => Tryd.prog.readableRec t && decide (t < Tryd.prog.types.size)) = true := by kernel_rfl
theorem patternOnes_k20 : (Rows.patternOnesRow.ifacesOut == Tryd.f11.resultTypes.toList.any (Tryd.prog.ifacesRec ·)) = true := by kernel_rfl
theorem patternOnes_k21 : (Rows.patternOnesRow.loopsOut == Tryd.f11.resultTypes.toList.any (Tryd.prog.loopsFrom ·)) = true := by kernel_rfl
theorem patternOnes_k22 : (Rows.patternOnesRow.plainKeys == Tryd.prog.plainKeys) = true := by rw [kp22]; rfl
theorem patternOnes_k23 : Rows.patternOnesRow.shortTexts.isNone = true := by kernel_rfl
theorem patternOnes_k26 : (Rows.patternOnesRow.lifted == Tryd.prog.liftsFinal) = true := by rw [kp26]; rfl
theorem patternOnes_k27 : (Tryd.prog.make == some Rows.patternOnesRow.make) = true := by rw [kp27]; rfl
theorem patternOnes_k28 : (Rows.patternOnesRow.kinds == (if Rows.patternOnesRow.domain.isEmpty then [] else Tryd.f11.params.toList.map fun t => match Tryd.prog.underlying t with | some (.int k) => some k | _ => none)) = true := by kernel_rfl
theorem patternOnes_k29 : (Rows.patternOnesRow.pinned == Rows.patternOnesRow.pinnedBy) = true := by kernel_rfl
theorem patternOnes_k30 : (Rows.patternOnesRow.veiled == (Tryd.f11.params.toList ++ Rows.patternOnesSpec.plain.varTypes Tryd.prog ++ Tryd.f11.resultTypes.toList).any (Tryd.prog.veiledRec ·)) = true := by kernel_rfl
theorem patternOnes_k31 : Rows.patternOnesRow.veiledFits Tryd.prog Tryd.f11.params.toList (Tryd.f11.params.toList ++ Rows.patternOnesSpec.plain.varTypes Tryd.prog ++ Tryd.f11.resultTypes.toList) = true := by kernel_rfl
theorem patternOnes_facts : joinedFacts Tryd.prog 11 Tryd.f11 Rows.patternOnesSpec Rows.patternOnesRow = true := (andK (andK (andK (andK (andK (andK (andK (andK (andK (andK (andK (andK (andK (andK (andK (andK (andK (andK (andK (andK (andK (andK (andK (andK (andK (andK (andK (andK (andK (andK (andK patternOnes_k0 kp1) kp2) patternOnes_k3) patternOnes_k4) patternOnes_k5) kp6) patternOnes_k7) kp8) patternOnes_k9) patternOnes_k10) patternOnes_k11) patternOnes_k12) patternOnes_k13) patternOnes_k14) patternOnes_k15) patternOnes_k16) patternOnes_k17) patternOnes_k18) patternOnes_k19) patternOnes_k20) patternOnes_k21) patternOnes_k22) patternOnes_k23) kp24) kp25) patternOnes_k26) patternOnes_k27) patternOnes_k28) patternOnes_k29) patternOnes_k30) patternOnes_k31)
theorem patternOnes_n1 : Tryd.prog.funcNamed Rows.patternOnesRow.func = some 11 := by kernel_rfl
theorem patternOnes_n3 : Tryd.f11.isInstance Tryd.prog Rows.patternOnesRow.origin Rows.patternOnesRow.targs := of_decide_eq_true (by kernel_rfl)
theorem patternOnes_n4 : Tryd.f11.isWrapper Tryd.prog Rows.patternOnesRow.wrapper Rows.patternOnesRow.mainSum := by unfold Func.isWrapper; first | (rw [if_pos (by decide +kernel)]; kernel_rfl) | (rw [if_neg (by decide +kernel)]; exact ⟨rfl, rfl⟩)
theorem patternOnes_holds : Rows.PatternOnesSaid :=
  OpenClaim.holds_of_wide 11 Tryd.f11 rfl rfl rfl rfl rfl rfl rfl ⟨rfl, rfl, rfl, rfl, rfl⟩ rfl rfl rfl rfl rfl patternOnes_n1 Tryd.func11 patternOnes_facts patternOnes_n3 patternOnes_n4
    (fun os started H enc _ => patternOnes_lifted os started H enc)
theorem patternOnes_cardP : ([3, 34].all fun u => !Tryd.prog.wantsStandIn u) = true := by kernel_rfl
theorem patternOnes_card : Rows.PatternOnesCardSaid :=
  Claim7.holds_tied_plain_at .later [] [.data, .data] true (true, "e800a76e7a4ae78992b3357b7156831b380a7cdf5ea6d41e53df4801c27e8aed") false patternOnes_holds (fun _ h => by cases h) (by kernel_rfl) (fun _ h => by cases h) patternOnes_row_tie rfl ⟨rfl, rfl⟩ (by kernel_rfl) rfl
    (fun f fn hf hfn => by
      obtain rfl : f = 11 := Option.some.inj (patternOnes_n1.symm.trans hf) |>.symm
      obtain rfl : fn = Tryd.f11 := (Option.some.inj (Tryd.func11.symm.trans hfn)).symm
      exact ⟨by kernel_rfl, fun j t ht => by
        rw [Tryd.params11] at ht
        have hm : t ∈ [3, 34] := by simpa using Array.mem_of_getElem? ht
        exact (show Tryd.prog.wantsStandIn t = false by simpa using List.all_eq_true.1 patternOnes_cardP t hm)⟩)
    (by kernel_rfl)
#print axioms patternOnes_card
#print axioms patternOnes_holds
end Go.Proofs.YtdhkdnmefeeclaaDoor
