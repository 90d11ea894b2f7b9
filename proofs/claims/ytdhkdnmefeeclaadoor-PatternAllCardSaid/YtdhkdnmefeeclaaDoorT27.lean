/- The law PatternAll is true of every input; no conditions. -/
import Derived.Test.YtdhkdnmefeeclaaDoorTie
import Derived.Test.YtdhkdnmefeeclaaDoorCards
import Derived.SevenTiedAt
import Derived.WalkKit
import Derived.ProofKit
import Derived.OpenShut
import Derived.ShutString
import Derived.ChangeOld
import Derived.Below
import Derived.Test.YtdhkdnmefeeclaaDoorED
import Derived.Test.YtdhkdnmefeeclaaDoorK0
import Derived.Test.YtdhkdnmefeeclaaDoorKAL
set_option linter.unusedSimpArgs false
set_option linter.unusedVariables false
set_option linter.unnecessarySimpa false
set_option linter.unusedVariables false
set_option maxRecDepth 100000
set_option maxHeartbeats 4000000
namespace Go.Proofs.YtdhkdnmefeeclaaDoor
open Go Go.Am Go.Proofs Go.RowKit Go.Off
open Go.ChangeShapes Go.WideShapes Go.ChangeAt
open Go.ChangeMaps (open_string shut_string)

set_option maxRecDepth 100000 in
theorem patternAll_lifted (os : Os) (started : os.Started) (H : Type) (enc : TypeId × Value → H) :
    ReturnsInHanded {} Tryd.checked os 8 .any (fun w args => (Rows.patternAllSpec.pre enc Tryd.prog Tryd.f8 Rows.patternAllRow.domain false w args ∧ laidMetH Tryd.prog laidD w) ∧ sizedMet enc Tryd.prog Tryd.f8 (OpenSpec.ofChange Rows.patternAllSpec) false w args) (Rows.patternAllSpec.post enc Tryd.prog Tryd.f8 false true false false) := by
  refine returnsInHanded_of_change_and (C := Tryd.checked) (X := fun w _ => laidMetH Tryd.prog laidD w) (fun _ _ _ hh h => h.of_heap hh) ownK started (by kernel_rfl) Tryd.func8
    (ChangeSpec.witness_shaped (enc := enc) (C := Tryd.checked) (os := os) (X := fun w _ => laidMetH Tryd.prog laidD w) false (World.laidAll Tryd.prog os laidD) #[.int .i64 0, .slice none 0 0, .slice none 0 0] 8 (World.laidAll_os _ _ _)
      (World.shaped_of_ZipB (by kernel_rfl) (by kernel_rfl)) (by kernel_rfl) (by kernel_rfl) (by kernel_rfl) (witD os _)) ?_
  intro W base args ds gs before hval0 hW hcnd _ hL _
  have hval : ∀ (j : Nat) t v, Tryd.f8.params[j]? = some t → args[j]? = some v → Value.okWide Tryd.prog W .any base t v := hval0
  have hW' := hW
  obtain ⟨p, q, hA0, hV, rfl, hfz, hnd⟩ := hW
  have hA : DataW.TrodAll enc Tryd.prog W 0 (fun _ => true) true Tryd.f8.params.toList args.toList ds p := hA0
  rw [Tryd.params8] at hA hval
  obtain ⟨v0, vs0, d0, ds0, p0, q0, hargs, rfl, rfl, h0, r0⟩ := trodAll_cons hA
  obtain ⟨v1, vs1, d1, ds1, p1, q1, rfl, rfl, rfl, h1, r1⟩ := trodAll_cons r0
  obtain ⟨v2, vs2, d2, ds2, p2, q2, rfl, rfl, rfl, h2, r2⟩ := trodAll_cons r1
  obtain ⟨rfl, rfl, rfl⟩ := trodAll_nil r2
  obtain rfl : args = #[v0, v1, v2] := by cases args; simp_all
  obtain ⟨rfl, rfl⟩ := trodVars_none hV
  obtain ⟨z0, rfl, rfl, rfl, wz0⟩ := open_int Tryd.underlying3 (hval 0 3 v0 rfl rfl) h0
  obtain ⟨x1, l1, c1, rfl⟩ := okWide_slice Tryd.underlying34 (hval 1 34 v1 rfl rfl)
  have lt1 : ∀ x ∈ p1, x.block < W.heap.size := by obtain ⟨m, hm⟩ := h1; exact DataW.trod_lt m _ _ _ hm
  obtain ⟨x2, l2, c2, rfl⟩ := okWide_slice Tryd.underlying53 (hval 2 53 v2 rfl rfl)
  have lt2 : ∀ x ∈ p2, x.block < W.heap.size := by obtain ⟨m, hm⟩ := h2; exact DataW.trod_lt m _ _ _ hm
  have w0 : AVR W (fun _ => False) [] hd00 (.one (.c (.val (.int .i64 z0)))) (.int .i64 z0) := .one _ _ (.c _ _ (.val _ rfl))
  have b0 : -9223372036854775808 ≤ z0 ∧ z0 ≤ 9223372036854775807 := by simpa [Lit.wf, IntKind.min, IntKind.max, IntKind.signed, IntKind.bits] using wz0
  obtain ⟨y1, ⟨a1, b1, e1⟩, w1⟩ := avr_cell rd_ints h1 rfl
  obtain ⟨y2, ⟨a2, b2, e2⟩, w2⟩ := avr_cell rd_rules h2 rfl
  cases e1
  cases e2
  clear hA0 hval0
  refine (law_calls (patternAll_C z0 a1 a2) (laidD_tab hL) (.cons w0 (.cons w1 (.cons w2 .nil)))).mono fun e W' ⟨he, bel⟩ => ?_
  subst he
  exact ⟨_, rfl, _, _, _, [], _, [], hW', trodAll_mk1 (shut_bool Tryd.underlying4 _), (trodAll_cons_mk (shut_int Tryd.underlying3 wz0) (trodAll_cons_mk (Below.trod laidK (by kernel_rfl) (of_decide_eq_true (by kernel_rfl)) h1 bel lt1) (trodAll_cons_mk (Below.trod laidK (by kernel_rfl) (of_decide_eq_true (by kernel_rfl)) h2 bel lt2) trodAll_mk0))), rfl, bel.frame _, fun h => by cases h⟩

theorem patternAll_k0 : Rows.patternAllRow.wf (OpenSpec.ofChange Rows.patternAllSpec) = true := by kernel_rfl
theorem patternAll_k3 : Tryd.f8.params.all (Tryd.prog.readableRec ·) = true := by kernel_rfl
theorem patternAll_k4 : namedTie Tryd.prog Rows.patternAllRow.named Rows.patternAllSpec.vars = true := by kernel_rfl
theorem patternAll_k5 : (Rows.patternAllRow.stops == []) = true := by kernel_rfl
theorem patternAll_k7 : (Rows.patternAllRow.knobs == []) = true := by kernel_rfl
theorem patternAll_k9 : (Rows.patternAllRow.inPlace == Tryd.prog.inPlace 8) = true := by kernel_rfl
theorem patternAll_k10 : (Rows.patternAllRow.unfollowed == Tryd.prog.unfollowed 8) = true := by kernel_rfl
theorem patternAll_k11 : (Rows.patternAllRow.recurses == Tryd.prog.recurses 8) = true := by kernel_rfl
theorem patternAll_k12 : (Rows.patternAllRow.named == Tryd.prog.varsNamed 8) = true := by kernel_rfl
theorem patternAll_k13 : (Rows.patternAllRow.maps == (Tryd.f8.params.toList ++ Rows.patternAllSpec.plain.varTypes Tryd.prog).any (Tryd.prog.mapsRec ·)) = true := by kernel_rfl
theorem patternAll_k14 : (Rows.patternAllRow.ifaces == (Tryd.f8.params.toList ++ Rows.patternAllSpec.plain.varTypes Tryd.prog).any (Tryd.prog.ifacesRec ·)) = true := by kernel_rfl
theorem patternAll_k15 : (Rows.patternAllRow.mapsOut == Tryd.prog.mapsAmong Tryd.f8.resultTypes.toList) = true := by kernel_rfl
theorem patternAll_k16 : (Rows.patternAllRow.loops == (Tryd.f8.params.toList ++ Rows.patternAllSpec.plain.varTypes Tryd.prog).any (Tryd.prog.loopsFrom ·)) = true := by kernel_rfl
theorem patternAll_k17 : (Rows.patternAllRow.wideKeys == (Tryd.f8.params.toList ++ Rows.patternAllSpec.plain.varTypes Tryd.prog ++ Tryd.f8.resultTypes.toList).any (Tryd.prog.wideKeysFrom ·)) = true := by kernel_rfl
theorem patternAll_k18 : Rows.patternAllSpec.vars.all (Tryd.prog.varReadable ·) = true := by kernel_rfl
theorem patternAll_k19 : Tryd.f8.resultTypes.all (fun t => Tryd.prog.readableRec t && decide (t < Tryd.prog.types.size)) = true := by kernel_rfl
theorem patternAll_k20 : (Rows.patternAllRow.ifacesOut == Tryd.f8.resultTypes.toList.any (Tryd.prog.ifacesRec ·)) = true := by kernel_rfl
theorem patternAll_k21 : (Rows.patternAllRow.loopsOut == Tryd.f8.resultTypes.toList.any (Tryd.prog.loopsFrom ·)) = true := by kernel_rfl
theorem patternAll_k22 : (Rows.patternAllRow.plainKeys == Tryd.prog.plainKeys) = true := by rw [kp22]; rfl
theorem patternAll_k23 : Rows.patternAllRow.shortTexts.isNone = true := by kernel_rfl
theorem patternAll_k26 : (Rows.patternAllRow.lifted == Tryd.prog.liftsFinal) = true := by rw [kp26]; rfl
theorem patternAll_k27 : (Tryd.prog.make == some Rows.patternAllRow.make) = true := by rw [kp27]; rfl
theorem patternAll_k28 : (Rows.patternAllRow.kinds == (if Rows.patternAllRow.domain.isEmpty then [] else Tryd.f8.params.toList.map fun t => match Tryd.prog.underlying t with | some (.int k) => some k | _ => none)) = true := by kernel_rfl
theorem patternAll_k29 : (Rows.patternAllRow.pinned == Rows.patternAllRow.pinnedBy) = true := by kernel_rfl
theorem patternAll_k30 : (Rows.patternAllRow.veiled == (Tryd.f8.params.toList ++ Rows.patternAllSpec.plain.varTypes Tryd.prog ++ Tryd.f8.resultTypes.toList).any (Tryd.prog.veiledRec ·)) = true := by kernel_rfl
theorem patternAll_k31 : Rows.patternAllRow.veiledFits Tryd.prog Tryd.f8.params.toList (Tryd.f8.params.toList ++ Rows.patternAllSpec.plain.varTypes Tryd.prog ++ Tryd.f8.resultTypes.toList) = true := by kernel_rfl
theorem patternAll_facts : joinedFacts Tryd.prog 8 Tryd.f8 Rows.patternAllSpec Rows.patternAllRow = true := (andK (andK (andK (andK (andK (andK (andK (andK (andK (andK (andK (andK (andK (andK (andK (andK (andK (andK (andK (andK (andK (andK (andK (andK (andK (andK (andK (andK (andK (andK (andK patternAll_k0 kp1) kp2) patternAll_k3) patternAll_k4) patternAll_k5) kp6) patternAll_k7) kp8) patternAll_k9) patternAll_k10) patternAll_k11) patternAll_k12) patternAll_k13) patternAll_k14) patternAll_k15) patternAll_k16) patternAll_k17) patternAll_k18) patternAll_k19) patternAll_k20) patternAll_k21) patternAll_k22) patternAll_k23) kp24) kp25) patternAll_k26) patternAll_k27) patternAll_k28) patternAll_k29) patternAll_k30) patternAll_k31)
theorem patternAll_n1 : Tryd.prog.funcNamed Rows.patternAllRow.func = some 8 := by kernel_rfl
theorem patternAll_n3 : Tryd.f8.isInstance Tryd.prog Rows.patternAllRow.origin Rows.patternAllRow.targs := of_decide_eq_true (by kernel_rfl)
theorem patternAll_n4 : Tryd.f8.isWrapper Tryd.prog Rows.patternAllRow.wrapper Rows.patternAllRow.mainSum := by unfold Func.isWrapper; first | (rw [if_pos (by decide +kernel)]; kernel_rfl) | (rw [if_neg (by decide +kernel)]; exact ⟨rfl, rfl⟩)
theorem patternAll_holds : Rows.PatternAllSaid :=
  OpenClaim.holds_of_wide 8 Tryd.f8 rfl rfl rfl rfl rfl rfl rfl ⟨rfl, rfl, rfl, rfl, rfl⟩ rfl rfl rfl rfl rfl patternAll_n1 Tryd.func8 patternAll_facts patternAll_n3 patternAll_n4
    (fun os started H enc _ => patternAll_lifted os started H enc)
theorem patternAll_cardP : ([3, 34, 53].all fun u => !Tryd.prog.wantsStandIn u) = true := by kernel_rfl
theorem patternAll_card : Rows.PatternAllCardSaid :=
  Claim7.holds_tied_plain_at .later [] [.data, .data] true (true, "e800a76e7a4ae78992b3357b7156831b380a7cdf5ea6d41e53df4801c27e8aed") false patternAll_holds (fun _ h => by cases h) (by kernel_rfl) (fun _ h => by cases h) patternAll_row_tie rfl ⟨rfl, rfl⟩ (by kernel_rfl) rfl
    (fun f fn hf hfn => by
      obtain rfl : f = 8 := Option.some.inj (patternAll_n1.symm.trans hf) |>.symm
      obtain rfl : fn = Tryd.f8 := (Option.some.inj (Tryd.func8.symm.trans hfn)).symm
      exact ⟨by kernel_rfl, fun j t ht => by
        rw [Tryd.params8] at ht
        have hm : t ∈ [3, 34, 53] := by simpa using Array.mem_of_getElem? ht
        exact (show Tryd.prog.wantsStandIn t = false by simpa using List.all_eq_true.1 patternAll_cardP t hm)⟩)
    (by kernel_rfl)
#print axioms patternAll_card
#print axioms patternAll_holds
end Go.Proofs.YtdhkdnmefeeclaaDoor
