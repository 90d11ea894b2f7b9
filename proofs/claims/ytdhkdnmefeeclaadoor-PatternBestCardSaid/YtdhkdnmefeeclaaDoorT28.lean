/- The law PatternBest is true of every input; no conditions. -/
import Derived.Test.YtdhkdnmefeeclaaDoorTie
import Derived.Test.YtdhkdnmefeeclaaDoorCards
import Derived.SevenTiedAt
import Derived.WalkKit
import Derived.ProofKit
import Derived.OpenShut
import Derived.ShutString
import Derived.ChangeOld
import Derived.Below
import Derived.Test.YtdhkdnmefeeclaaDoorED
import Derived.Test.YtdhkdnmefeeclaaDoorK0
import Derived.Test.YtdhkdnmefeeclaaDoorKBE
set_option linter.unusedSimpArgs false
set_option linter.unusedVariables false
set_option linter.unnecessarySimpa false
set_option linter.unusedVariables false
set_option maxRecDepth 100000
set_option maxHeartbeats 4000000
namespace Go.Proofs.YtdhkdnmefeeclaaDoor
open Go Go.Am Go.Proofs Go.RowKit Go.Off
open Go.ChangeShapes Go.WideShapes Go.ChangeAt
open Go.ChangeMaps (open_string shut_string)

set_option maxRecDepth 100000 in
theorem patternBest_lifted (os : Os) (started : os.Started) (H : Type) (enc : TypeId × Value → H) :
    ReturnsInHanded {} Tryd.checked os 13 .any (fun w args => (Rows.patternBestSpec.pre enc Tryd.prog Tryd.f13 Rows.patternBestRow.domain false w args ∧ laidMetH Tryd.prog laidD w) ∧ sizedMet enc Tryd.prog Tryd.f13 (OpenSpec.ofChange Rows.patternBestSpec) false w args) (Rows.patternBestSpec.post enc Tryd.prog Tryd.f13 false true false false) := by
  refine returnsInHanded_of_change_and (C := Tryd.checked) (X := fun w _ => laidMetH Tryd.prog laidD w) (fun _ _ _ hh h => h.of_heap hh) ownK started (by kernel_rfl) Tryd.func13
    (ChangeSpec.witness_shaped (enc := enc) (C := Tryd.checked) (os := os) (X := fun w _ => laidMetH Tryd.prog laidD w) false (World.laidAll Tryd.prog os laidD) #[.int .i64 0, .slice none 0 0, .slice none 0 0, .slice none 0 0] 8 (World.laidAll_os _ _ _)
      (World.shaped_of_ZipB (by kernel_rfl) (by kernel_rfl)) (by kernel_rfl) (by kernel_rfl) (by kernel_rfl) (witD os _)) ?_
  intro W base args ds gs before hval0 hW hcnd _ hL _
  have hval : ∀ (j : Nat) t v, Tryd.f13.params[j]? = some t → args[j]? = some v → Value.okWide Tryd.prog W .any base t v := hval0
  have hW' := hW
  obtain ⟨p, q, hA0, hV, rfl, hfz, hnd⟩ := hW
  have hA : DataW.TrodAll enc Tryd.prog W 0 (fun _ => true) true Tryd.f13.params.toList args.toList ds p := hA0
  rw [Tryd.params13] at hA hval
  obtain ⟨v0, vs0, d0, ds0, p0, q0, hargs, rfl, rfl, h0, r0⟩ := trodAll_cons hA
  obtain ⟨v1, vs1, d1, ds1, p1, q1, rfl, rfl, rfl, h1, r1⟩ := trodAll_cons r0
  obtain ⟨v2, vs2, d2, ds2, p2, q2, rfl, rfl, rfl, h2, r2⟩ := trodAll_cons r1
  obtain ⟨v3, vs3, d3, ds3, p3, q3, rfl, rfl, rfl, h3, r3⟩ := trodAll_cons r2
  obtain ⟨rfl, rfl, rfl⟩ := trodAll_nil r3
  obtain rfl : args = #[v0, v1, v2, v3] := by cases args; simp_all
  obtain ⟨rfl, rfl⟩ := trodVars_none hV
  obtain ⟨z0, rfl, rfl, rfl, wz0⟩ := open_int Tryd.underlying3 (hval 0 3 v0 rfl rfl) h0
  obtain ⟨x1, l1, c1, rfl⟩ := okWide_slice Tryd.underlying34 (hval 1 34 v1 rfl rfl)
  have lt1 : ∀ x ∈ p1, x.block < W.heap.size := by obtain ⟨m, hm⟩ := h1; exact DataW.trod_lt m _ _ _ hm
  obtain ⟨x2, l2, c2, rfl⟩ := okWide_slice Tryd.underlying53 (hval 2 53 v2 rfl rfl)
  have lt2 : ∀ x ∈ p2, x.block < W.heap.size := by obtain ⟨m, hm⟩ := h2; exact DataW.trod_lt m _ _ _ hm
  obtain ⟨x3, l3, c3, rfl⟩ := okWide_slice Tryd.underlying71 (hval 3 71 v3 rfl rfl)
  have lt3 : ∀ x ∈ p3, x.block < W.heap.size := by obtain ⟨m, hm⟩ := h3; exact DataW.trod_lt m _ _ _ hm
  have w0 : AVR W (fun _ => False) [] hd00 (.one (.c (.val (.int .i64 z0)))) (.int .i64 z0) := .one _ _ (.c _ _ (.val _ rfl))
  have b0 : -9223372036854775808 ≤ z0 ∧ z0 ≤ 9223372036854775807 := by simpa [Lit.wf, IntKind.min, IntKind.max, IntKind.signed, IntKind.bits] using wz0
  obtain ⟨y1, ⟨a1, b1, e1⟩, w1⟩ := avr_cell rd_ints h1 rfl
  obtain ⟨y2, ⟨a2, b2, e2⟩, w2⟩ := avr_cell rd_rules h2 rfl
  obtain ⟨y3, ⟨a3, e3⟩, w3⟩ := avr_cell rd_vec h3 rfl
  cases e1
  cases e2
  cases e3
  clear hA0 hval0
  refine (law_calls (patternBest_C z0 a1 a2 a3) (laidD_tab hL) (.cons w0 (.cons w1 (.cons w2 (.cons w3 .nil))))).mono fun e W' ⟨he, bel⟩ => ?_
  subst he
  exact ⟨_, rfl, _, _, _, [], _, [], hW', trodAll_mk1 (shut_bool Tryd.underlying4 _), (trodAll_cons_mk (shut_int Tryd.underlying3 wz0) (trodAll_cons_mk (Below.trod laidK (by kernel_rfl) (of_decide_eq_true (by kernel_rfl)) h1 bel lt1) (trodAll_cons_mk (Below.trod laidK (by kernel_rfl) (of_decide_eq_true (by kernel_rfl)) h2 bel lt2) (trodAll_cons_mk (Below.trod laidK (by kernel_rfl) (of_decide_eq_true (by kernel_rfl)) h3 bel lt3) trodAll_mk0)))), rfl, bel.frame _, fun h => by cases h⟩

theorem patternBest_k0 : Rows.patternBestRow.wf (OpenSpec.ofChange Rows.patternBestSpec) = true := by kernel_rfl
theorem patternBest_k3 : Tryd.f13.params.all (Tryd.prog.readableRec ·) = true := by kernel_rfl
theorem patternBest_k4 : namedTie Tryd.prog Rows.patternBestRow.named Rows.patternBestSpec.vars = true := by kernel_rfl
theorem patternBest_k5 : (Rows.patternBestRow.stops == []) = true := by kernel_rfl
theorem patternBest_k7 : (Rows.patternBestRow.knobs == []) = true := by kernel_rfl
theorem patternBest_k9 : (Rows.patternBestRow.inPlace == Tryd.prog.inPlace 13) = true := by kernel_rfl
theorem patternBest_k10 : (Rows.patternBestRow.unfollowed == Tryd.prog.unfollowed 13) = true := by kernel_rfl
theorem patternBest_k11 : (Rows.patternBestRow.recurses == Tryd.prog.recurses 13) = true := by kernel_rfl
theorem patternBest_k12 : (Rows.patternBestRow.named == Tryd.prog.varsNamed 13) = true := by kernel_rfl
theorem patternBest_k13 : (Rows.patternBestRow.maps == (Tryd.f13.params.toList ++ Rows.patternBestSpec.plain.varTypes Tryd.prog).any (Tryd.prog.mapsRec ·)) = true := by kernel_rfl
theorem patternBest_k14 : (Rows.patternBestRow.ifaces == (Tryd.f13.params.toList ++ Rows.patternBestSpec.plain.varTypes Tryd.prog).any (Tryd.prog.ifacesRec ·)) = true := by kernel_rfl
theorem patternBest_k15 : (Rows.patternBestRow.mapsOut == Tryd.prog.mapsAmong Tryd.f13.resultTypes.toList) = true := by kernel_rfl
theorem patternBest_k16 : (Rows.patternBestRow.loops == (Tryd.f13.params.toList ++ Rows.patternBestSpec.plain.varTypes Tryd.prog).any (Tryd.prog.loopsFrom ·)) = true := by kernel_rfl
theorem patternBest_k17 : (Rows.patternBestRow.wideKeys == (Tryd.f13.params.toList ++ Rows.patternBestSpec.plain.varTypes Tryd.prog ++ Tryd.f13.resultTypes.toList).any (Tryd.prog.wideKeysFrom ·)) = true := by kernel_rfl
theorem patternBest_k18 : Rows.patternBestSpec.vars.all (Tryd.prog.varReadable ·) = true := by kernel_rfl
theorem patternBest_k19 : Tryd.f13.resultTypes.all (fun t => Tryd.prog.readableRec t && decide (t < Tryd.prog.types.size)) = true := by kernel_rfl
theorem patternBest_k20 : (Rows.patternBestRow.ifacesOut == Tryd.f13.resultTypes.toList.any (Tryd.prog.ifacesRec ·)) = true := by kernel_rfl
theorem patternBest_k21 : (Rows.patternBestRow.loopsOut == Tryd.f13.resultTypes.toList.any (Tryd.prog.loopsFrom ·)) = true := by kernel_rfl
theorem patternBest_k22 : (Rows.patternBestRow.plainKeys == Tryd.prog.plainKeys) = true := by rw [kp22]; rfl
theorem patternBest_k23 : Rows.patternBestRow.shortTexts.isNone = true := by kernel_rfl
theorem patternBest_k26 : (Rows.patternBestRow.lifted == Tryd.prog.liftsFinal) = true := by rw [kp26]; rfl
theorem patternBest_k27 : (Tryd.prog.make == some Rows.patternBestRow.make) = true := by rw [kp27]; rfl
theorem patternBest_k28 : (Rows.patternBestRow.kinds == (if Rows.patternBestRow.domain.isEmpty then [] else Tryd.f13.params.toList.map fun t => match Tryd.prog.underlying t with | some (.int k) => some k | _ => none)) = true := by kernel_rfl
theorem patternBest_k29 : (Rows.patternBestRow.pinned == Rows.patternBestRow.pinnedBy) = true := by kernel_rfl
theorem patternBest_k30 : (Rows.patternBestRow.veiled == (Tryd.f13.params.toList ++ Rows.patternBestSpec.plain.varTypes Tryd.prog ++ Tryd.f13.resultTypes.toList).any (Tryd.prog.veiledRec ·)) = true := by kernel_rfl
theorem patternBest_k31 : Rows.patternBestRow.veiledFits Tryd.prog Tryd.f13.params.toList (Tryd.f13.params.toList ++ Rows.patternBestSpec.plain.varTypes Tryd.prog ++ Tryd.f13.resultTypes.toList) = true := by kernel_rfl
theorem patternBest_facts : joinedFacts Tryd.prog 13 Tryd.f13 Rows.patternBestSpec Rows.patternBestRow = true := (andK (andK (andK (andK (andK (andK (andK (andK (andK (andK (andK (andK (andK (andK (andK (andK (andK (andK (andK (andK (andK (andK (andK (andK (andK (andK (andK (andK (andK (andK (andK patternBest_k0 kp1) kp2) patternBest_k3) patternBest_k4) patternBest_k5) kp6) patternBest_k7) kp8) patternBest_k9) patternBest_k10) patternBest_k11) patternBest_k12) patternBest_k13) patternBest_k14) patternBest_k15) patternBest_k16) patternBest_k17) patternBest_k18) patternBest_k19) patternBest_k20) patternBest_k21) patternBest_k22) patternBest_k23) kp24) kp25) patternBest_k26) patternBest_k27) patternBest_k28) patternBest_k29) patternBest_k30) patternBest_k31)
theorem patternBest_n1 : Tryd.prog.funcNamed Rows.patternBestRow.func = some 13 := by kernel_rfl
theorem patternBest_n3 : Tryd.f13.isInstance Tryd.prog Rows.patternBestRow.origin Rows.patternBestRow.targs := of_decide_eq_true (by kernel_rfl)
theorem patternBest_n4 : Tryd.f13.isWrapper Tryd.prog Rows.patternBestRow.wrapper Rows.patternBestRow.mainSum := by unfold Func.isWrapper; first | (rw [if_pos (by decide +kernel)]; kernel_rfl) | (rw [if_neg (by decide +kernel)]; exact ⟨rfl, rfl⟩)
theorem patternBest_holds : Rows.PatternBestSaid :=
  OpenClaim.holds_of_wide 13 Tryd.f13 rfl rfl rfl rfl rfl rfl rfl ⟨rfl, rfl, rfl, rfl, rfl⟩ rfl rfl rfl rfl rfl patternBest_n1 Tryd.func13 patternBest_facts patternBest_n3 patternBest_n4
    (fun os started H enc _ => patternBest_lifted os started H enc)
theorem patternBest_cardP : ([3, 34, 53, 71].all fun u => !Tryd.prog.wantsStandIn u) = true := by kernel_rfl
theorem patternBest_card : Rows.PatternBestCardSaid :=
  Claim7.holds_tied_plain_at .later [] [.data, .data] true (true, "e800a76e7a4ae78992b3357b7156831b380a7cdf5ea6d41e53df4801c27e8aed") false patternBest_holds (fun _ h => by cases h) (by kernel_rfl) (fun _ h => by cases h) patternBest_row_tie rfl ⟨rfl, rfl⟩ (by kernel_rfl) rfl
    (fun f fn hf hfn => by
      obtain rfl : f = 13 := Option.some.inj (patternBest_n1.symm.trans hf) |>.symm
      obtain rfl : fn = Tryd.f13 := (Option.some.inj (Tryd.func13.symm.trans hfn)).symm
      exact ⟨by kernel_rfl, fun j t ht => by
        rw [Tryd.params13] at ht
        have hm : t ∈ [3, 34, 53, 71] := by simpa using Array.mem_of_getElem? ht
        exact (show Tryd.prog.wantsStandIn t = false by simpa using List.all_eq_true.1 patternBest_cardP t hm)⟩)
    (by kernel_rfl)
#print axioms patternBest_card
#print axioms patternBest_holds
end Go.Proofs.YtdhkdnmefeeclaaDoor
