/- Walks of pattern: Right; offcutref18: Right; offcutlaw18: Of. -/
import Derived.Test.YtdhkdnmefeeclaaDoorA5
import Derived.Test.YtdhkdnmefeeclaaDoorA6
import Derived.Test.YtdhkdnmefeeclaaDoorB0
import Derived.Test.YtdhkdnmefeeclaaDoorVD
set_option linter.unusedSimpArgs false
set_option linter.unusedVariables false
set_option linter.unnecessarySimpa false
set_option linter.unusedSimpArgs false
set_option linter.unusedVariables false
set_option maxRecDepth 100000
set_option maxHeartbeats 4000000
namespace Go.Proofs.YtdhkdnmefeeclaaDoor
open Go Go.Am Go.Proofs Go.RowKit Go.Off

structure Rul where
  a : Int
  b : Int
  tog : Bool
def fRl (r : Rul) : List CV := [.val (.int .i64 r.a), .val (.int .i64 r.b), .val (.bool r.tog)]
abbrev RL := Option (List Rul)
abbrev aRl (l : RL) : AV := .one (.c (encSl 3 fRl l))
abbrev aRu (r : Rul) : AV := .agg [.c (.val (.int .i64 r.a)), .c (.val (.int .i64 r.b)), .c (.val (.bool r.tog))]
def rlAt (l : RL) (i : Nat) : Rul := (osl l).getD i ⟨0, 0, false⟩
theorem rlAt_in {l : RL} {i : Nat} (h : i < (osl l).length) : rlAt l i = (osl l)[i] := by
  unfold rlAt; rw [List.getD_eq_getElem?_getD, List.getElem?_eq_getElem h]; rfl
def in12 (k : Int) : Bool := decide (0 ≤ k) && decide (k < 12)
def badR (r : Rul) : Bool := !in12 r.a || (!in12 r.b || decide (r.a = r.b))
def rlBad (l : RL) (i : Nat) : Bool := badR (rlAt l i)
def rightRl (l : RL) : Bool := decide ((osl l).length ≤ 200) && !anyI (rlBad l) (osl l).length
abbrev aWr : AV := .one (.fn 65 [.iptr [.val (.func (.func 64) #[] #[])]])

abbrev c64 : CC := (.seq (.reg [⟨(some 2), none, (.mv (.const (.bool false)))⟩]) (.seq (.reg [⟨(some 3), none, (.mv (.tmp 0))⟩, ⟨(some 4), none, (.bin .geq (.tmp 3) (.const (.int .i64 (0))))⟩, ⟨(some 5), none, (.mv (.tmp 4))⟩, ⟨(some 6), (some (5, true)), (.mv (.tmp 0))⟩, ⟨(some 7), (some (5, true)), (.bin .lss (.tmp 6) (.const (.int .i64 (12))))⟩, ⟨(some 8), none, (.pick (.tmp 5) (.tmp 7) (.const (.bool false)))⟩, ⟨(some 2), none, (.mv (.tmp 8))⟩]) .ret))
theorem cc64 : ccode Tryd.prog [] (Tryd.f64.body.getD .skip) = some c64 := by kernel_rfl
theorem body64 : Tryd.f64.body = some (Tryd.f64.body.getD .skip) := rfl

theorem in12_C (k : Int) : PureC Tryd.prog 64 [aI k] (.ret (aB (in12 k))) := by
  unfold in12
  by_cases h1 : 0 ≤ k
  · rw [decide_eq_true h1, Bool.true_and]
    by_cases h2 : k < 12
    · rw [decide_eq_true h2]
      refine pureC_of (rs := [(RV.tmp 2)]) Tryd.func64 (fun a w => Tryd.call64 a w) body64 cc64 (by kernel_rfl) ?_
      rw [Tryd.ntmps64]
      simp only [frs, Nat.reduceAdd, Nat.reduceSub]
      repeat (first | (with_reducible first | refine Way.imp ?_ | refine blk_o rfl ?_) | ((with_reducible refine WayR.imp (fun K hK => ?_)); simp (disch := first | omega | (simp only [dls]; omega)) only [std, reduceIte, reduceCtorEq, Int.reduceToNat, Nat.reduceAdd, Nat.reduceSub, Nat.reduceMul, Int.reduceAdd, Int.reduceSub, Int.reduceMul, Int.reduceNeg, fU]; subst hK))
      exact ⟨_, rfl, rfl⟩
    · rw [decide_eq_false h2]
      refine pureC_of (rs := [(RV.tmp 2)]) Tryd.func64 (fun a w => Tryd.call64 a w) body64 cc64 (by kernel_rfl) ?_
      rw [Tryd.ntmps64]
      simp only [frs, Nat.reduceAdd, Nat.reduceSub]
      repeat (first | (with_reducible first | refine Way.imp ?_ | refine blk_o rfl ?_) | ((with_reducible refine WayR.imp (fun K hK => ?_)); simp (disch := first | omega | (simp only [dls]; omega)) only [std, reduceIte, reduceCtorEq, Int.reduceToNat, Nat.reduceAdd, Nat.reduceSub, Nat.reduceMul, Int.reduceAdd, Int.reduceSub, Int.reduceMul, Int.reduceNeg, fU]; subst hK))
      exact ⟨_, rfl, rfl⟩
  · rw [decide_eq_false h1, Bool.false_and]
    refine pureC_of (rs := [(RV.tmp 2)]) Tryd.func64 (fun a w => Tryd.call64 a w) body64 cc64 (by kernel_rfl) ?_
    rw [Tryd.ntmps64]
    simp only [frs, Nat.reduceAdd, Nat.reduceSub]
    repeat (first | (with_reducible first | refine Way.imp ?_ | refine blk_o rfl ?_) | ((with_reducible refine WayR.imp (fun K hK => ?_)); simp (disch := first | omega | (simp only [dls]; omega)) only [std, reduceIte, reduceCtorEq, Int.reduceToNat, Nat.reduceAdd, Nat.reduceSub, Nat.reduceMul, Int.reduceAdd, Int.reduceSub, Int.reduceMul, Int.reduceNeg, fU]; subst hK))
    exact ⟨_, rfl, rfl⟩

abbrev c65 : CC := (.seq (.reg [⟨(some 2), none, (.box 63 (.tmp 0))⟩, ⟨(some 3), none, (.mv (.const (.bool false)))⟩]) (.seq (.reg [⟨(some 4), none, (.load 1 false (.tmp 1))⟩, ⟨(some 5), none, (.faddr 0 (.tmp 2))⟩, ⟨(some 6), none, (.load 1 false (.tmp 5))⟩, ⟨(some 7), none, (.callf (.tmp 4) [(.tmp 6)])⟩, ⟨(some 8), none, (.un .not (.tmp 7))⟩, ⟨(some 9), none, (.mv (.tmp 8))⟩, ⟨(some 10), (some (9, false)), (.load 1 false (.tmp 1))⟩, ⟨(some 11), (some (9, false)), (.faddr 1 (.tmp 2))⟩, ⟨(some 12), (some (9, false)), (.load 1 false (.tmp 11))⟩, ⟨(some 13), (some (9, false)), (.callf (.tmp 10) [(.tmp 12)])⟩, ⟨(some 14), (some (9, false)), (.un .not (.tmp 13))⟩, ⟨(some 15), none, (.pick (.tmp 9) (.const (.bool true)) (.tmp 14))⟩, ⟨(some 16), none, (.mv (.tmp 15))⟩, ⟨(some 17), (some (16, false)), (.faddr 0 (.tmp 2))⟩, ⟨(some 18), (some (16, false)), (.load 1 false (.tmp 17))⟩, ⟨(some 19), (some (16, false)), (.faddr 1 (.tmp 2))⟩, ⟨(some 20), (some (16, false)), (.load 1 false (.tmp 19))⟩, ⟨(some 21), (some (16, false)), (.bin .eql (.tmp 18) (.tmp 20))⟩, ⟨(some 22), none, (.pick (.tmp 16) (.const (.bool true)) (.tmp 21))⟩, ⟨(some 3), none, (.mv (.tmp 22))⟩]) .ret))
theorem cc65 : ccode Tryd.prog [] (Tryd.f65.body.getD .skip) = some c65 := by kernel_rfl
theorem body65 : Tryd.f65.body = some (Tryd.f65.body.getD .skip) := rfl

theorem badR_C (r : Rul) : PureC Tryd.prog 65 [aRu r, .one (.iptr [.val (.func (.func 64) #[] #[])])] (.ret (aB (badR r))) := by
  have h1 := in12_C r.a
  have h2 := in12_C r.b
  unfold badR
  cases c1 : in12 r.a with
  | false =>
    rw [c1] at h1
    refine pureC_of (rs := [(RV.tmp 3)]) Tryd.func65 (fun a w => Tryd.call65 a w) body65 cc65 (by kernel_rfl) ?_
    rw [Tryd.ntmps65]
    simp only [frs, Nat.reduceAdd, Nat.reduceSub]
    repeat (first | (with_reducible first | refine Way.imp ?_ | refine blk_o rfl ?_) | ((with_reducible refine WayR.imp (fun K hK => ?_)); simp (disch := first | omega | (simp only [dls]; omega)) only [std, reduceIte, reduceCtorEq, Int.reduceToNat, Nat.reduceAdd, Nat.reduceSub, Nat.reduceMul, Int.reduceAdd, Int.reduceSub, Int.reduceMul, Int.reduceNeg, fU]; subst hK) | refine zcV (h1) rfl rfl rfl ?_)
    exact ⟨_, rfl, rfl⟩
  | true =>
    rw [c1] at h1
    rw [Bool.not_true, Bool.false_or]
    cases c2 : in12 r.b with
    | false =>
      rw [c2] at h2
      refine pureC_of (rs := [(RV.tmp 3)]) Tryd.func65 (fun a w => Tryd.call65 a w) body65 cc65 (by kernel_rfl) ?_
      rw [Tryd.ntmps65]
      simp only [frs, Nat.reduceAdd, Nat.reduceSub]
      repeat (first | (with_reducible first | refine Way.imp ?_ | refine blk_o rfl ?_) | ((with_reducible refine WayR.imp (fun K hK => ?_)); simp (disch := first | omega | (simp only [dls]; omega)) only [std, reduceIte, reduceCtorEq, Int.reduceToNat, Nat.reduceAdd, Nat.reduceSub, Nat.reduceMul, Int.reduceAdd, Int.reduceSub, Int.reduceMul, Int.reduceNeg, fU]; subst hK) | refine zcV (h1) rfl rfl rfl ?_ | (apply call_val_g (h2) rfl; (case hg => simp (disch := first | omega | (simp only [dls]; omega)) only [std, reduceIte, reduceCtorEq, Int.reduceToNat, Nat.reduceAdd, Nat.reduceSub, Nat.reduceMul, Int.reduceAdd, Int.reduceSub, Int.reduceMul, Int.reduceNeg, fU]); (case hcl => (simp only [evs, St.ev, constAV, evl]; (repeat (first | exact closeAVs_nil | (apply closeAVs_cons; (first | (refine close_own3 rfl (by decide)) | (refine close_ownO rfl (by decide) ?_; assumption) | rfl)))); done)); (case hu => rfl)))
      exact ⟨_, rfl, rfl⟩
    | true =>
      rw [c2] at h2
      rw [Bool.not_true, Bool.false_or]
      by_cases h : r.a = r.b
      · rw [decide_eq_true h]
        refine pureC_of (rs := [(RV.tmp 3)]) Tryd.func65 (fun a w => Tryd.call65 a w) body65 cc65 (by kernel_rfl) ?_
        rw [Tryd.ntmps65]
        simp only [frs, Nat.reduceAdd, Nat.reduceSub]
        repeat (first | (with_reducible first | refine Way.imp ?_ | refine blk_o rfl ?_) | ((with_reducible refine WayR.imp (fun K hK => ?_)); simp (disch := first | omega | (simp only [dls]; omega)) only [std, reduceIte, reduceCtorEq, Int.reduceToNat, Nat.reduceAdd, Nat.reduceSub, Nat.reduceMul, Int.reduceAdd, Int.reduceSub, Int.reduceMul, Int.reduceNeg, fU]; subst hK) | refine zcV (h1) rfl rfl rfl ?_ | (apply call_val_g (h2) rfl; (case hg => simp (disch := first | omega | (simp only [dls]; omega)) only [std, reduceIte, reduceCtorEq, Int.reduceToNat, Nat.reduceAdd, Nat.reduceSub, Nat.reduceMul, Int.reduceAdd, Int.reduceSub, Int.reduceMul, Int.reduceNeg, fU]); (case hcl => (simp only [evs, St.ev, constAV, evl]; (repeat (first | exact closeAVs_nil | (apply closeAVs_cons; (first | (refine close_own3 rfl (by decide)) | (refine close_ownO rfl (by decide) ?_; assumption) | rfl)))); done)); (case hu => rfl)))
        exact ⟨_, rfl, rfl⟩
      · rw [decide_eq_false h]
        refine pureC_of (rs := [(RV.tmp 3)]) Tryd.func65 (fun a w => Tryd.call65 a w) body65 cc65 (by kernel_rfl) ?_
        rw [Tryd.ntmps65]
        simp only [frs, Nat.reduceAdd, Nat.reduceSub]
        repeat (first | (with_reducible first | refine Way.imp ?_ | refine blk_o rfl ?_) | ((with_reducible refine WayR.imp (fun K hK => ?_)); simp (disch := first | omega | (simp only [dls]; omega)) only [std, reduceIte, reduceCtorEq, Int.reduceToNat, Nat.reduceAdd, Nat.reduceSub, Nat.reduceMul, Int.reduceAdd, Int.reduceSub, Int.reduceMul, Int.reduceNeg, fU]; subst hK) | refine zcV (h1) rfl rfl rfl ?_ | (apply call_val_g (h2) rfl; (case hg => simp (disch := first | omega | (simp only [dls]; omega)) only [std, reduceIte, reduceCtorEq, Int.reduceToNat, Nat.reduceAdd, Nat.reduceSub, Nat.reduceMul, Int.reduceAdd, Int.reduceSub, Int.reduceMul, Int.reduceNeg, fU]); (case hcl => (simp only [evs, St.ev, constAV, evl]; (repeat (first | exact closeAVs_nil | (apply closeAVs_cons; (first | (refine close_own3 rfl (by decide)) | (refine close_ownO rfl (by decide) ?_; assumption) | rfl)))); done)); (case hu => rfl)))
        exact ⟨_, rfl, rfl⟩

abbrev c94_k1 : CC := (.seq (.reg [⟨(some 4), none, (.mv (.const (.int .i64 (-1))))⟩]) .ret)
abbrev c94_b1 : CC := (.seq (.reg [⟨(some 9), none, (.bin .lss (.tmp 8) (.tmp 7))⟩]) (.seq (.cond (.tmp 9) .skip (.exit 0)) (.seq (.block 1 (.seq (.reg [⟨(some 10), none, (.mv (.tmp 8))⟩, ⟨(some 5), none, (.mv (.tmp 10))⟩]) (.seq (.reg [⟨(some 11), none, (.mv (.tmp 1))⟩, ⟨(some 12), none, (.mv (.tmp 0))⟩, ⟨(some 13), none, (.mv (.tmp 5))⟩, ⟨(some 14), none, (.iaddr 3 none (.tmp 12) (.tmp 13))⟩, ⟨(some 15), none, (.load 3 true (.tmp 14))⟩, ⟨(some 16), none, (.callf (.tmp 11) [(.tmp 15)])⟩]) (.cond (.tmp 16) (.seq (.reg [⟨(some 17), none, (.mv (.tmp 5))⟩, ⟨(some 4), none, (.mv (.tmp 17))⟩]) .ret) .skip)))) (.reg [⟨(some 18), none, (.bin .add (.tmp 8) (.const (.int .i64 (1))))⟩, ⟨(some 8), none, (.mv (.tmp 18))⟩]))))
abbrev c94 : CC := (.seq (.reg [⟨(some 4), none, (.mv (.const (.int .i64 (0))))⟩]) (.seq (.seq (.reg [⟨(some 6), none, (.mv (.tmp 0))⟩, ⟨(some 7), none, (.len false (.tmp 6))⟩, ⟨(some 8), none, (.mv (.const (.int .i64 (0))))⟩]) (.block 0 (.loop c94_b1))) c94_k1))
theorem cc94 : ccode Tryd.prog [] (Tryd.f94.body.getD .skip) = some c94 := by kernel_rfl
theorem body94 : Tryd.f94.body = some (Tryd.f94.body.getD .skip) := rfl

theorem idxRl_C (l : RL) (hl : (osl l).length ≤ 1000000) :
    PureC Tryd.prog 94 [aRl l, aWr] (.ret (aI (fstI (rlBad l) (osl l).length))) := by
  refine pureC_of (rs := [(RV.tmp 4)]) Tryd.func94 (fun a w => Tryd.call94 a w) body94 cc94 (by kernel_rfl) ?_
  rw [Tryd.ntmps94]
  simp only [frs, Nat.reduceAdd, Nat.reduceSub]
  repeat (first | (with_reducible first | refine Way.imp ?_ | refine blk_o rfl ?_) | ((with_reducible refine WayR.imp (fun K hK => ?_)); simp (disch := first | omega | (simp only [dls]; omega)) only [std, reduceIte, reduceCtorEq, Int.reduceToNat, Nat.reduceAdd, Nat.reduceSub, Nat.reduceMul, Int.reduceAdd, Int.reduceSub, Int.reduceMul, Int.reduceNeg, fU]; subst hK))
  refine awp_loop (fun (zz : Nat) => ⟨(aRl l :: aWr :: .junk :: .junk :: aI 0 :: .junk :: aRl l :: aI (osl l).length :: aI zz :: .junk :: .junk :: .junk :: .junk :: .junk :: .junk :: .junk :: .junk :: .junk :: .junk :: []), []⟩) (fun (zz : Nat) => zz ≤ (osl l).length ∧ anyI (rlBad l) zz = false) (fun (zz : Nat) => (osl l).length - zz) (0) ?hI1 (Fgt.head (Nat.le_refl _) [true, true, false, false, true, false, true, true, true] ?hT1 ?hH1) ?hB1
  case hT1 => first | (simp (disch := omega) only [hds, liveT, cleanAV, cleanCell, clean1, cleanBlk, reduceIte, Int.reduceSub, Int.reduceAdd, Int.reduceNeg]; done) | rfl
  case hH1 => first | (simp (disch := omega) only [hds, liveT, cleanAV, cleanCell, clean1, cleanBlk, reduceIte, Int.reduceSub, Int.reduceAdd, Int.reduceNeg]; done) | rfl
  · exact ⟨Nat.zero_le _, rfl⟩
  rintro i ⟨hi, hs⟩
  by_cases him : i = (osl l).length
  · repeat (first | (with_reducible first | refine Way.imp ?_ | refine blk_o rfl ?_) | ((with_reducible refine WayR.imp (fun K hK => ?_)); simp (disch := first | omega | (simp only [dls]; omega)) only [std, reduceIte, reduceCtorEq, Int.reduceToNat, Nat.reduceAdd, Nat.reduceSub, Nat.reduceMul, Int.reduceAdd, Int.reduceSub, Int.reduceMul, Int.reduceNeg, fU]; subst hK))
    rw [fstI_none (by rw [← him]; exact hs)]
    exact ⟨_, rfl, rfl⟩
  · have hlt : i < (osl l).length := by omega
    have hz := badR_C (osl l)[i]
    have hb : rlBad l i = badR (osl l)[i] := by unfold rlBad; rw [rlAt_in hlt]
    cases he : badR (osl l)[i] with
    | false =>
      rw [he] at hz hb
      repeat (first | (with_reducible first | refine Way.imp ?_ | refine blk_o rfl ?_) | ((with_reducible refine WayR.imp (fun K hK => ?_)); simp (disch := first | omega | (simp only [dls]; omega)) only [std, reduceIte, reduceCtorEq, Int.reduceToNat, Nat.reduceAdd, Nat.reduceSub, Nat.reduceMul, Int.reduceAdd, Int.reduceSub, Int.reduceMul, Int.reduceNeg, fU, fRl]; subst hK) | refine zcV (hz) rfl rfl rfl ?_)
      refine ⟨(i + 1), ?hI2, ?hM2, Fgt.head (Nat.le_refl _) [true, true, false, false, true, false, true, true, true] ?hT2 ?hH2⟩
      case hT2 => first | (simp (disch := omega) only [hds, liveT, cleanAV, cleanCell, clean1, cleanBlk, reduceIte, Int.reduceSub, Int.reduceAdd, Int.reduceNeg]; done) | rfl
      case hH2 => first | (simp (disch := omega) only [hds, liveT, cleanAV, cleanCell, clean1, cleanBlk, reduceIte, Int.reduceSub, Int.reduceAdd, Int.reduceNeg]; done) | rfl
      · exact ⟨Nat.succ_le_of_lt hlt, by rw [anyI_succ, hs, hb]; rfl⟩
      · show (osl l).length - (i + 1) < (osl l).length - i; omega
    | true =>
      rw [he] at hz hb
      repeat (first | (with_reducible first | refine Way.imp ?_ | refine blk_o rfl ?_) | ((with_reducible refine WayR.imp (fun K hK => ?_)); simp (disch := first | omega | (simp only [dls]; omega)) only [std, reduceIte, reduceCtorEq, Int.reduceToNat, Nat.reduceAdd, Nat.reduceSub, Nat.reduceMul, Int.reduceAdd, Int.reduceSub, Int.reduceMul, Int.reduceNeg, fU, fRl]; subst hK) | refine zcV (hz) rfl rfl rfl ?_)
      rw [fstI_some hlt hs hb]
      exact ⟨_, rfl, rfl⟩

abbrev c66 : CC := (.seq (.reg [⟨(some 4), none, (.mv (.const (.bool false)))⟩]) (.seq (.reg [⟨(some 5), none, (.mv (.tmp 0))⟩, ⟨(some 6), none, (.mv (.tmp 1))⟩, ⟨(some 7), none, (.callf (.func 94) [(.tmp 5), (.tmp 6)])⟩, ⟨(some 8), none, (.bin .geq (.tmp 7) (.const (.int .i64 (0))))⟩, ⟨(some 4), none, (.mv (.tmp 8))⟩]) .ret))
theorem cc66 : ccode Tryd.prog [] (Tryd.f66.body.getD .skip) = some c66 := by kernel_rfl
theorem body66 : Tryd.f66.body = some (Tryd.f66.body.getD .skip) := rfl

theorem conRl_C (l : RL) (hl : (osl l).length ≤ 1000000) :
    PureC Tryd.prog 66 [aRl l, aWr] (.ret (aB (anyI (rlBad l) (osl l).length))) := by
  have hx := idxRl_C l hl
  rw [← fstI_any]
  generalize fstI (rlBad l) (osl l).length = k at *
  refine pureC_of (rs := [(RV.tmp 4)]) Tryd.func66 (fun a w => Tryd.call66 a w) body66 cc66 (by kernel_rfl) ?_
  rw [Tryd.ntmps66]
  simp only [frs, Nat.reduceAdd, Nat.reduceSub]
  repeat (first | (with_reducible first | refine Way.imp ?_ | refine blk_o rfl ?_) | ((with_reducible refine WayR.imp (fun K hK => ?_)); simp (disch := first | omega | (simp only [dls]; omega)) only [std, reduceIte, reduceCtorEq, Int.reduceToNat, Nat.reduceAdd, Nat.reduceSub, Nat.reduceMul, Int.reduceAdd, Int.reduceSub, Int.reduceMul, Int.reduceNeg, fU]; subst hK) | refine zcA (hx) rfl rfl rfl ?_)
  exact ⟨_, rfl, rfl⟩

abbrev c30 : CC := (.seq (.reg [⟨(some 2), none, (.mv (.const (.bool false)))⟩]) (.seq (.reg [⟨(some 3), none, (.new 88 [.nilFunc])⟩, ⟨none, none, (.store 1 (.tmp 3) (.func 64))⟩]) (.seq (.reg [⟨(some 5), none, (.mkfn 65 [(.tmp 3)])⟩, ⟨(some 4), none, (.mv (.tmp 5))⟩]) (.seq (.reg [⟨(some 6), none, (.mv (.tmp 0))⟩, ⟨(some 7), none, (.len false (.tmp 6))⟩, ⟨(some 8), none, (.bin .leq (.tmp 7) (.const (.int .i64 (200))))⟩, ⟨(some 9), none, (.mv (.tmp 8))⟩, ⟨(some 10), (some (9, true)), (.mv (.tmp 0))⟩, ⟨(some 11), (some (9, true)), (.mv (.tmp 4))⟩, ⟨(some 12), (some (9, true)), (.callf (.func 66) [(.tmp 10), (.tmp 11)])⟩, ⟨(some 13), (some (9, true)), (.un .not (.tmp 12))⟩, ⟨(some 14), none, (.pick (.tmp 9) (.tmp 13) (.const (.bool false)))⟩, ⟨(some 2), none, (.mv (.tmp 14))⟩]) .ret))))
theorem cc30 : ccode Tryd.prog [] (Tryd.f30.body.getD .skip) = some c30 := by kernel_rfl
theorem body30 : Tryd.f30.body = some (Tryd.f30.body.getD .skip) := rfl

theorem pright_C (l : RL) : PureC Tryd.prog 30 [aRl l] (.ret (aB (rightRl l))) := by
  unfold rightRl
  by_cases h2 : (osl l).length ≤ 200
  · have hc := conRl_C l (by omega)
    rw [decide_eq_true h2, Bool.true_and]
    generalize anyI (rlBad l) (osl l).length = z at *
    refine pureC_of (rs := [(RV.tmp 2)]) Tryd.func30 (fun a w => Tryd.call30 a w) body30 cc30 (by kernel_rfl) ?_
    rw [Tryd.ntmps30]
    simp only [frs, Nat.reduceAdd, Nat.reduceSub]
    repeat (first | (with_reducible first | refine Way.imp ?_ | refine blk_o rfl ?_) | ((with_reducible refine WayR.imp (fun K hK => ?_)); simp (disch := first | omega | (simp only [dls]; omega)) only [std, reduceIte, reduceCtorEq, Int.reduceToNat, Nat.reduceAdd, Nat.reduceSub, Nat.reduceMul, Int.reduceAdd, Int.reduceSub, Int.reduceMul, Int.reduceNeg, fU]; subst hK) | (apply call_flat_g (by simp (disch := first | omega | (simp only [dls]; omega)) only [std, reduceIte, reduceCtorEq, Int.reduceToNat, Nat.reduceAdd, Nat.reduceSub, Nat.reduceMul, Int.reduceAdd, Int.reduceSub, Int.reduceMul, Int.reduceNeg, fU]) (hc) rfl; (case hcl => (simp only [evs, St.ev, constAV, evl]; (repeat (first | exact closeAVs_nil | (apply closeAVs_cons; (first | (refine close_own3 rfl (by decide)) | (refine close_ownO rfl (by decide) ?_; assumption) | rfl)))); done)); (case hf => rfl)))
    exact ⟨_, rfl, rfl⟩
  · rw [decide_eq_false h2, Bool.false_and]
    refine pureC_of (rs := [(RV.tmp 2)]) Tryd.func30 (fun a w => Tryd.call30 a w) body30 cc30 (by kernel_rfl) ?_
    rw [Tryd.ntmps30]
    simp only [frs, Nat.reduceAdd, Nat.reduceSub]
    repeat (first | (with_reducible first | refine Way.imp ?_ | refine blk_o rfl ?_) | ((with_reducible refine WayR.imp (fun K hK => ?_)); simp (disch := first | omega | (simp only [dls]; omega)) only [std, reduceIte, reduceCtorEq, Int.reduceToNat, Nat.reduceAdd, Nat.reduceSub, Nat.reduceMul, Int.reduceAdd, Int.reduceSub, Int.reduceMul, Int.reduceNeg, fU]; subst hK))
    exact ⟨_, rfl, rfl⟩

abbrev c31_k1 : CC := (.seq (.reg [⟨(some 53), none, (.mv (.tmp 0))⟩, ⟨(some 54), none, (.len false (.tmp 53))⟩, ⟨(some 55), none, (.bin .leq (.tmp 54) (.const (.int .i64 (200))))⟩, ⟨(some 2), none, (.mv (.tmp 55))⟩]) .ret)
abbrev c31_b1 : CC := (.seq (.seq (.reg [⟨(some 4), none, (.mv (.tmp 3))⟩, ⟨(some 5), none, (.mv (.tmp 0))⟩, ⟨(some 6), none, (.len false (.tmp 5))⟩, ⟨(some 7), none, (.bin .lss (.tmp 4) (.tmp 6))⟩]) (.cond (.tmp 7) .skip (.exit 0))) (.seq (.block 1 (.seq (.reg [⟨(some 10), none, (.mv (.tmp 0))⟩, ⟨(some 11), none, (.mv (.tmp 3))⟩, ⟨(some 12), none, (.iaddr 3 none (.tmp 10) (.tmp 11))⟩, ⟨(some 13), none, (.faddr 0 (.tmp 12))⟩, ⟨(some 14), none, (.load 1 false (.tmp 13))⟩, ⟨(some 15), none, (.bin .lss (.tmp 14) (.const (.int .i64 (0))))⟩, ⟨(some 16), none, (.mv (.tmp 15))⟩, ⟨(some 17), (some (16, false)), (.mv (.tmp 0))⟩, ⟨(some 18), (some (16, false)), (.mv (.tmp 3))⟩, ⟨(some 19), (some (16, false)), (.iaddr 3 none (.tmp 17) (.tmp 18))⟩, ⟨(some 20), (some (16, false)), (.faddr 0 (.tmp 19))⟩, ⟨(some 21), (some (16, false)), (.load 1 false (.tmp 20))⟩, ⟨(some 22), (some (16, false)), (.bin .gtr (.tmp 21) (.const (.int .i64 (11))))⟩, ⟨(some 23), none, (.pick (.tmp 16) (.const (.bool true)) (.tmp 22))⟩, ⟨(some 24), none, (.mv (.tmp 23))⟩, ⟨(some 25), (some (24, false)), (.mv (.tmp 0))⟩, ⟨(some 26), (some (24, false)), (.mv (.tmp 3))⟩, ⟨(some 27), (some (24, false)), (.iaddr 3 none (.tmp 25) (.tmp 26))⟩, ⟨(some 28), (some (24, false)), (.faddr 1 (.tmp 27))⟩, ⟨(some 29), (some (24, false)), (.load 1 false (.tmp 28))⟩, ⟨(some 30), (some (24, false)), (.bin .lss (.tmp 29) (.const (.int .i64 (0))))⟩, ⟨(some 31), none, (.pick (.tmp 24) (.const (.bool true)) (.tmp 30))⟩, ⟨(some 32), none, (.mv (.tmp 31))⟩, ⟨(some 33), (some (32, false)), (.mv (.tmp 0))⟩, ⟨(some 34), (some (32, false)), (.mv (.tmp 3))⟩, ⟨(some 35), (some (32, false)), (.iaddr 3 none (.tmp 33) (.tmp 34))⟩, ⟨(some 36), (some (32, false)), (.faddr 1 (.tmp 35))⟩, ⟨(some 37), (some (32, false)), (.load 1 false (.tmp 36))⟩, ⟨(some 38), (some (32, false)), (.bin .gtr (.tmp 37) (.const (.int .i64 (11))))⟩, ⟨(some 39), none, (.pick (.tmp 32) (.const (.bool true)) (.tmp 38))⟩, ⟨(some 40), none, (.mv (.tmp 39))⟩, ⟨(some 41), (some (40, false)), (.mv (.tmp 0))⟩, ⟨(some 42), (some (40, false)), (.mv (.tmp 3))⟩, ⟨(some 43), (some (40, false)), (.iaddr 3 none (.tmp 41) (.tmp 42))⟩, ⟨(some 44), (some (40, false)), (.faddr 0 (.tmp 43))⟩, ⟨(some 45), (some (40, false)), (.load 1 false (.tmp 44))⟩, ⟨(some 46), (some (40, false)), (.mv (.tmp 0))⟩, ⟨(some 47), (some (40, false)), (.mv (.tmp 3))⟩, ⟨(some 48), (some (40, false)), (.iaddr 3 none (.tmp 46) (.tmp 47))⟩, ⟨(some 49), (some (40, false)), (.faddr 1 (.tmp 48))⟩, ⟨(some 50), (some (40, false)), (.load 1 false (.tmp 49))⟩, ⟨(some 51), (some (40, false)), (.bin .eql (.tmp 45) (.tmp 50))⟩, ⟨(some 52), none, (.pick (.tmp 40) (.const (.bool true)) (.tmp 51))⟩]) (.cond (.tmp 52) (.seq (.reg [⟨(some 2), none, (.mv (.const (.bool false)))⟩]) .ret) .skip))) (.reg [⟨(some 8), none, (.mv (.tmp 3))⟩, ⟨(some 9), none, (.bin .add (.tmp 8) (.const (.int .i64 (1))))⟩, ⟨(some 3), none, (.mv (.tmp 9))⟩])))
abbrev c31 : CC := (.seq (.reg [⟨(some 2), none, (.mv (.const (.bool false)))⟩]) (.seq (.seq (.reg [⟨(some 3), none, (.mv (.const (.int .i64 (0))))⟩]) (.block 0 (.loop c31_b1))) c31_k1))
theorem cc31 : ccode Tryd.prog [] (Tryd.f31.body.getD .skip) = some c31 := by kernel_rfl
theorem body31 : Tryd.f31.body = some (Tryd.f31.body.getD .skip) := rfl

theorem rright18_C (l : RL) (hl : (osl l).length ≤ 1000000) : PureC Tryd.prog 31 [aRl l] (.ret (aB (rightRl l))) := by
  unfold rightRl
  refine pureC_of (rs := [(RV.tmp 2)]) Tryd.func31 (fun a w => Tryd.call31 a w) body31 cc31 (by kernel_rfl) ?_
  rw [Tryd.ntmps31]
  simp only [frs, Nat.reduceAdd, Nat.reduceSub]
  repeat (first | (with_reducible first | refine Way.imp ?_ | refine blk_o rfl ?_) | ((with_reducible refine WayR.imp (fun K hK => ?_)); simp (disch := first | omega | (simp only [dls]; omega)) only [std, reduceIte, reduceCtorEq, Int.reduceToNat, Nat.reduceAdd, Nat.reduceSub, Nat.reduceMul, Int.reduceAdd, Int.reduceSub, Int.reduceMul, Int.reduceNeg, fU]; subst hK))
  refine awp_loop (fun (zz : Nat) => ⟨(aRl l :: .junk :: .junk :: aI zz :: .junk :: .junk :: .junk :: .junk :: .junk :: .junk :: .junk :: .junk :: .junk :: .junk :: .junk :: .junk :: .junk :: .junk :: .junk :: .junk :: .junk :: .junk :: .junk :: .junk :: .junk :: .junk :: .junk :: .junk :: .junk :: .junk :: .junk :: .junk :: .junk :: .junk :: .junk :: .junk :: .junk :: .junk :: .junk :: .junk :: .junk :: .junk :: .junk :: .junk :: .junk :: .junk :: .junk :: .junk :: .junk :: .junk :: .junk :: .junk :: .junk :: .junk :: .junk :: .junk :: []), []⟩) (fun (zz : Nat) => zz ≤ (osl l).length ∧ anyI (rlBad l) zz = false) (fun (zz : Nat) => (osl l).length - zz) (0) ?hI3 (Fgt.head (Nat.le_refl _) [true, false, false, true] ?hT3 ?hH3) ?hB3
  case hT3 => first | (simp (disch := omega) only [hds, liveT, cleanAV, cleanCell, clean1, cleanBlk, reduceIte, Int.reduceSub, Int.reduceAdd, Int.reduceNeg]; done) | rfl
  case hH3 => first | (simp (disch := omega) only [hds, liveT, cleanAV, cleanCell, clean1, cleanBlk, reduceIte, Int.reduceSub, Int.reduceAdd, Int.reduceNeg]; done) | rfl
  · exact ⟨Nat.zero_le _, rfl⟩
  rintro i ⟨hi, hs⟩
  by_cases him : i = (osl l).length
  · rw [← him, hs, Bool.not_false, Bool.and_true, him]
    by_cases h200 : (osl l).length ≤ 200
    · rw [decide_eq_true h200]
      repeat (first | (with_reducible first | refine Way.imp ?_ | refine blk_o rfl ?_) | ((with_reducible refine WayR.imp (fun K hK => ?_)); simp (disch := first | omega | (simp only [dls]; omega)) only [std, reduceIte, reduceCtorEq, Int.reduceToNat, Nat.reduceAdd, Nat.reduceSub, Nat.reduceMul, Int.reduceAdd, Int.reduceSub, Int.reduceMul, Int.reduceNeg, fU]; subst hK))
      exact ⟨_, rfl, rfl⟩
    · rw [decide_eq_false h200]
      repeat (first | (with_reducible first | refine Way.imp ?_ | refine blk_o rfl ?_) | ((with_reducible refine WayR.imp (fun K hK => ?_)); simp (disch := first | omega | (simp only [dls]; omega)) only [std, reduceIte, reduceCtorEq, Int.reduceToNat, Nat.reduceAdd, Nat.reduceSub, Nat.reduceMul, Int.reduceAdd, Int.reduceSub, Int.reduceMul, Int.reduceNeg, fU]; subst hK))
      exact ⟨_, rfl, rfl⟩
  have hlt : i < (osl l).length := by omega
  have hb : rlBad l i = (!(decide (0 ≤ (osl l)[i].a) && decide ((osl l)[i].a < 12)) || (!(decide (0 ≤ (osl l)[i].b) && decide ((osl l)[i].b < 12)) || decide ((osl l)[i].a = (osl l)[i].b))) := by unfold rlBad badR in12; rw [rlAt_in hlt]
  have hfalse : rlBad l i = true → anyI (rlBad l) (osl l).length = true := fun h => by
    unfold anyI
    rw [List.any_eq_true]
    exact ⟨i, List.mem_range.2 hlt, h⟩
  by_cases c1 : 0 ≤ (osl l)[i].a
  case neg =>
    rw [hfalse (by rw [hb, decide_eq_false c1]; rfl), Bool.not_true, Bool.and_false]
    repeat (first | (with_reducible first | refine Way.imp ?_ | refine blk_o rfl ?_) | ((with_reducible refine WayR.imp (fun K hK => ?_)); simp (disch := first | omega | (simp only [dls]; omega)) only [std, reduceIte, reduceCtorEq, Int.reduceToNat, Nat.reduceAdd, Nat.reduceSub, Nat.reduceMul, Int.reduceAdd, Int.reduceSub, Int.reduceMul, Int.reduceNeg, fU, fRl]; subst hK))
    exact ⟨_, rfl, rfl⟩
  by_cases c2 : (osl l)[i].a < 12
  case neg =>
    rw [hfalse (by rw [hb, decide_eq_false c2, Bool.and_false]; rfl), Bool.not_true, Bool.and_false]
    repeat (first | (with_reducible first | refine Way.imp ?_ | refine blk_o rfl ?_) | ((with_reducible refine WayR.imp (fun K hK => ?_)); simp (disch := first | omega | (simp only [dls]; omega)) only [std, reduceIte, reduceCtorEq, Int.reduceToNat, Nat.reduceAdd, Nat.reduceSub, Nat.reduceMul, Int.reduceAdd, Int.reduceSub, Int.reduceMul, Int.reduceNeg, fU, fRl]; subst hK))
    exact ⟨_, rfl, rfl⟩
  by_cases c3 : 0 ≤ (osl l)[i].b
  case neg =>
    rw [hfalse (by rw [hb, decide_eq_false c3, Bool.false_and]; simp), Bool.not_true, Bool.and_false]
    repeat (first | (with_reducible first | refine Way.imp ?_ | refine blk_o rfl ?_) | ((with_reducible refine WayR.imp (fun K hK => ?_)); simp (disch := first | omega | (simp only [dls]; omega)) only [std, reduceIte, reduceCtorEq, Int.reduceToNat, Nat.reduceAdd, Nat.reduceSub, Nat.reduceMul, Int.reduceAdd, Int.reduceSub, Int.reduceMul, Int.reduceNeg, fU, fRl]; subst hK))
    exact ⟨_, rfl, rfl⟩
  by_cases c4 : (osl l)[i].b < 12
  case neg =>
    rw [hfalse (by rw [hb, decide_eq_false c4, Bool.and_false]; simp), Bool.not_true, Bool.and_false]
    repeat (first | (with_reducible first | refine Way.imp ?_ | refine blk_o rfl ?_) | ((with_reducible refine WayR.imp (fun K hK => ?_)); simp (disch := first | omega | (simp only [dls]; omega)) only [std, reduceIte, reduceCtorEq, Int.reduceToNat, Nat.reduceAdd, Nat.reduceSub, Nat.reduceMul, Int.reduceAdd, Int.reduceSub, Int.reduceMul, Int.reduceNeg, fU, fRl]; subst hK))
    exact ⟨_, rfl, rfl⟩
  by_cases c5 : (osl l)[i].a = (osl l)[i].b
  · rw [hfalse (by rw [hb, decide_eq_true c5]; simp), Bool.not_true, Bool.and_false]
    repeat (first | (with_reducible first | refine Way.imp ?_ | refine blk_o rfl ?_) | ((with_reducible refine WayR.imp (fun K hK => ?_)); simp (disch := first | omega | (simp only [dls]; omega)) only [std, reduceIte, reduceCtorEq, Int.reduceToNat, Nat.reduceAdd, Nat.reduceSub, Nat.reduceMul, Int.reduceAdd, Int.reduceSub, Int.reduceMul, Int.reduceNeg, fU, fRl, c5]; subst hK))
    exact ⟨_, rfl, rfl⟩
  rw [decide_eq_true c1, decide_eq_true c2, decide_eq_true c3, decide_eq_true c4, decide_eq_false c5] at hb
  repeat (first | (with_reducible first | refine Way.imp ?_ | refine blk_o rfl ?_) | ((with_reducible refine WayR.imp (fun K hK => ?_)); simp (disch := first | omega | (simp only [dls]; omega)) only [std, reduceIte, reduceCtorEq, Int.reduceToNat, Nat.reduceAdd, Nat.reduceSub, Nat.reduceMul, Int.reduceAdd, Int.reduceSub, Int.reduceMul, Int.reduceNeg, fU, fRl]; subst hK))
  refine ⟨(i + 1), ?hI4, ?hM4, Fgt.head (Nat.le_refl _) [true, false, false, true] ?hT4 ?hH4⟩
  case hT4 => first | (simp (disch := omega) only [hds, liveT, cleanAV, cleanCell, clean1, cleanBlk, reduceIte, Int.reduceSub, Int.reduceAdd, Int.reduceNeg]; done) | rfl
  case hH4 => first | (simp (disch := omega) only [hds, liveT, cleanAV, cleanCell, clean1, cleanBlk, reduceIte, Int.reduceSub, Int.reduceAdd, Int.reduceNeg]; done) | rfl
  · exact ⟨Nat.succ_le_of_lt hlt, by rw [anyI_succ, hs, hb]; rfl⟩
  · show (osl l).length - (i + 1) < (osl l).length - i; omega

abbrev c32_k1 : CC := (.seq (.reg [⟨(some 23), none, (.mv (.tmp 3))⟩, ⟨(some 2), none, (.mv (.tmp 23))⟩]) .ret)
abbrev c32_b1 : CC := (.seq (.reg [⟨(some 9), none, (.bin .lss (.tmp 8) (.tmp 7))⟩]) (.seq (.cond (.tmp 9) .skip (.exit 0)) (.seq (.block 1 (.seq (.reg [⟨(some 10), none, (.iaddr 3 none (.tmp 6) (.tmp 8))⟩, ⟨(some 11), none, (.load 3 true (.tmp 10))⟩, ⟨(some 5), none, (.new 63 [(.int .i64 (0)), (.int .i64 (0)), (.bool false)])⟩, ⟨none, none, (.store 3 (.tmp 5) (.tmp 11))⟩]) (.reg [⟨(some 12), none, (.mv (.tmp 3))⟩, ⟨(some 13), none, (.faddr 0 (.tmp 5))⟩, ⟨(some 14), none, (.load 1 false (.tmp 13))⟩, ⟨(some 15), none, (.faddr 1 (.tmp 5))⟩, ⟨(some 16), none, (.load 1 false (.tmp 15))⟩, ⟨(some 17), none, (.faddr 2 (.tmp 5))⟩, ⟨(some 18), none, (.load 1 false (.tmp 17))⟩, ⟨(some 19), none, (.build [(.int .i64 (0)), (.int .i64 (0)), (.bool false)] [(0, (1, (.tmp 14))), (1, (1, (.tmp 16))), (2, (1, (.tmp 18)))])⟩, ⟨(some 20), none, (.mkrow 100 3 [(.tmp 19)])⟩, ⟨(some 21), none, (.append 100 3 24 (.tmp 12) (.tmp 20))⟩, ⟨(some 3), none, (.mv (.tmp 21))⟩]))) (.reg [⟨(some 22), none, (.bin .add (.tmp 8) (.const (.int .i64 (1))))⟩, ⟨(some 8), none, (.mv (.tmp 22))⟩]))))
abbrev c32 : CC := (.seq (.reg [⟨(some 2), none, (.mv (.const (.slice none 0 0)))⟩]) (.seq (.reg [⟨(some 3), none, (.mv (.const (.slice none 0 0)))⟩]) (.seq (.seq (.reg [⟨(some 6), none, (.mv (.tmp 0))⟩, ⟨(some 7), none, (.len false (.tmp 6))⟩, ⟨(some 8), none, (.mv (.const (.int .i64 (0))))⟩]) (.block 0 (.loop c32_b1))) c32_k1)))
theorem cc32 : ccode Tryd.prog [] (Tryd.f32.body.getD .skip) = some c32 := by kernel_rfl
theorem body32 : Tryd.f32.body = some (Tryd.f32.body.getD .skip) := rfl

theorem lof18_C (l : RL) (hl : (osl l).length ≤ 1000000) : PureC Tryd.prog 32 [aRl l] (.ret (aRl (rowO (osl l)))) := by
  refine PureC.fresh_rowO (ty := 100) (e := 3) ?_
  refine pureC_of (rs := [(RV.tmp 2)]) Tryd.func32 (fun a w => Tryd.call32 a w) body32 cc32 (by kernel_rfl) ?_
  rw [Tryd.ntmps32]
  simp only [frs, Nat.reduceAdd, Nat.reduceSub]
  repeat (first | (with_reducible first | refine Way.imp ?_ | refine blk_o rfl ?_) | ((with_reducible refine WayR.imp (fun K hK => ?_)); simp (disch := first | omega | (simp only [dls]; omega)) only [std, reduceIte, reduceCtorEq, Int.reduceToNat, Nat.reduceAdd, Nat.reduceSub, Nat.reduceMul, Int.reduceAdd, Int.reduceSub, Int.reduceMul, Int.reduceNeg, fU]; subst hK))
  refine AWp.fgt ?_ (Fgt.openNil (i := 3) rfl 100 3)
  simp only [List.set_cons_succ, List.set_cons_zero, List.length_nil, List.length_cons, List.nil_append, List.cons_append, Nat.reduceAdd]
  refine awp_loop (fun (zz : Nat × (List Rul) × Nat × Bool) => ⟨(.junk :: .junk :: .junk :: .one (.own 0 zz.2.2.1) :: .junk :: .junk :: aRl l :: aI (osl l).length :: aI zz.1 :: .junk :: .junk :: .junk :: .junk :: .junk :: .junk :: .junk :: .junk :: .junk :: .junk :: .junk :: .junk :: .junk :: .junk :: .junk :: []), [⟨zz.2.2.1, 100, 3, encB fRl zz.2.1, true, zz.2.2.2⟩]⟩) (fun (zz : Nat × (List Rul) × Nat × Bool) => zz.1 ≤ (osl l).length ∧ zz.2.1 = (osl l).take zz.1 ∧ zz.2.2.2 = !zz.2.1.isEmpty) (fun (zz : Nat × (List Rul) × Nat × Bool) => (osl l).length - zz.1) (0, [], 0, false) ?hI5 (Fgt.head (Nat.zero_le 1) [false, false, false, true, false, false, true, true, true] ?hT5 ?hH5) ?hB5
  case hT5 => first | (simp (disch := omega) only [hds, liveT, cleanAV, cleanCell, clean1, cleanBlk, reduceIte, Int.reduceSub, Int.reduceAdd, Int.reduceNeg]; done) | rfl
  case hH5 => first | (simp (disch := omega) only [hds, liveT, cleanAV, cleanCell, clean1, cleanBlk, reduceIte, Int.reduceSub, Int.reduceAdd, Int.reduceNeg]; done) | rfl
  · dsimp only; exact ⟨Nat.zero_le _, rfl, rfl⟩
  rintro ⟨i, out, v, nn⟩ ⟨hi, ho, hnn⟩
  dsimp only at hi ho hnn
  by_cases him : i = (osl l).length
  · repeat (first | (with_reducible first | refine Way.imp ?_ | refine blk_o rfl ?_) | ((with_reducible refine WayR.imp (fun K hK => ?_)); simp (disch := first | omega | (simp only [dls]; omega)) only [std, reduceIte, reduceCtorEq, Int.reduceToNat, Nat.reduceAdd, Nat.reduceSub, Nat.reduceMul, Int.reduceAdd, Int.reduceSub, Int.reduceMul, Int.reduceNeg, fU]; subst hK))
    refine ⟨_, rfl, ?_⟩
    rw [him, List.take_length] at ho
    rw [hnn, ho]
    exact Ends.fresh_enc rfl
  · have hlt : i < (osl l).length := by omega
    have hol : out.length = i := by rw [ho, List.length_take]; omega
    repeat (first | (with_reducible first | refine Way.imp ?_ | refine blk_o rfl ?_) | ((with_reducible refine WayR.imp (fun K hK => ?_)); simp (disch := first | omega | (simp only [dls]; omega)) only [std, reduceIte, reduceCtorEq, Int.reduceToNat, Nat.reduceAdd, Nat.reduceSub, Nat.reduceMul, Int.reduceAdd, Int.reduceSub, Int.reduceMul, Int.reduceNeg, fU, fRl, hol]; subst hK))
    have e1 : out ++ [(osl l)[i]] = (osl l).take (i + 1) := by rw [ho, List.take_succ_eq_append_getElem hlt]
    have eA : encB fRl out ++ [[Cell.c (.val (.int .i64 (osl l)[i].a)), Cell.c (.val (.int .i64 (osl l)[i].b)), Cell.c (.val (.bool (osl l)[i].tog))]] = encB fRl (out ++ [(osl l)[i]]) := by rw [← encB_append]; rfl
    refine ⟨(i + 1, out ++ [(osl l)[i]], v + 1, true), ?hI6, ?hM6, Fgt.head (Nat.zero_le 1) [false, false, false, true, false, false, true, true, true] ?hT6 ?hH6⟩
    case hT6 => first | (simp (disch := omega) only [hds, liveT, cleanAV, cleanCell, clean1, cleanBlk, reduceIte, Int.reduceSub, Int.reduceAdd, Int.reduceNeg, eA, List.isEmpty_cons, Bool.or_true, Bool.not_false]; done) | rfl
    case hH6 => first | (simp (disch := omega) only [hds, liveT, cleanAV, cleanCell, clean1, cleanBlk, reduceIte, Int.reduceSub, Int.reduceAdd, Int.reduceNeg, eA, List.isEmpty_cons, Bool.or_true, Bool.not_false]; done) | rfl
    · dsimp only; exact ⟨hlt, e1, by cases out <;> rfl⟩
    · dsimp only; omega

end Go.Proofs.YtdhkdnmefeeclaaDoor
set_option linter.unusedSimpArgs false
set_option linter.unusedVariables false
set_option maxRecDepth 100000
set_option maxHeartbeats 4000000
namespace Go.Proofs.YtdhkdnmefeeclaaDoor
open Go Go.Am Go.Proofs Go.RowKit Go.Off

theorem tdiv_two (n : Nat) : Int.tdiv ((n : Nat) : Int) 2 = ((n / 2 : Nat) : Int) := by rw [Int.tdiv_eq_ediv_of_nonneg (by omega)]; rfl
theorem tmod_two (n : Nat) : Int.tmod ((n : Nat) : Int) 2 = ((n % 2 : Nat) : Int) := by rw [Int.tmod_eq_emod_of_nonneg (by omega)]; rfl
theorem half_le (n k : Nat) : n / 2 ^ k ≤ n := Nat.div_le_self _ _

abbrev c37_k1 : CC := (.seq (.reg [⟨(some 13), none, (.mv (.tmp 0))⟩, ⟨(some 14), none, (.bin .rem (.tmp 13) (.const (.int .i64 (2))))⟩, ⟨(some 15), none, (.bin .eql (.tmp 14) (.const (.int .i64 (1))))⟩, ⟨(some 4), none, (.mv (.tmp 15))⟩]) .ret)
abbrev c37_b1 : CC := (.seq (.seq (.reg [⟨(some 6), none, (.mv (.tmp 5))⟩, ⟨(some 7), none, (.mv (.tmp 1))⟩, ⟨(some 8), none, (.bin .lss (.tmp 6) (.tmp 7))⟩]) (.cond (.tmp 8) .skip (.exit 0))) (.seq (.block 1 (.reg [⟨(some 11), none, (.mv (.tmp 0))⟩, ⟨(some 12), none, (.bin .quo (.tmp 11) (.const (.int .i64 (2))))⟩, ⟨(some 0), none, (.mv (.tmp 12))⟩])) (.reg [⟨(some 9), none, (.mv (.tmp 5))⟩, ⟨(some 10), none, (.bin .add (.tmp 9) (.const (.int .i64 (1))))⟩, ⟨(some 5), none, (.mv (.tmp 10))⟩])))
abbrev c37 : CC := (.seq (.reg [⟨(some 4), none, (.mv (.const (.bool false)))⟩]) (.seq (.seq (.reg [⟨(some 5), none, (.mv (.const (.int .i64 (0))))⟩]) (.block 0 (.loop c37_b1))) c37_k1))
theorem cc37 : ccode Tryd.prog [] (Tryd.f37.body.getD .skip) = some c37 := by kernel_rfl
theorem body37 : Tryd.f37.body = some (Tryd.f37.body.getD .skip) := rfl

theorem in_C (n k : Nat) (hn : n < 9223372036854775808) (hk : k ≤ 1000) : PureC Tryd.prog 37 [aI n, aI k] (.ret (aB (bitN n k))) := by
  have h0 : n / 2 ^ 0 = n := by rw [Nat.pow_zero, Nat.div_one]
  refine pureC_of (rs := [(RV.tmp 4)]) Tryd.func37 (fun a w => Tryd.call37 a w) body37 cc37 (by kernel_rfl) ?_
  rw [Tryd.ntmps37]
  simp only [frs, Nat.reduceAdd, Nat.reduceSub]
  repeat (first | (with_reducible first | refine Way.imp ?_ | refine blk_o rfl ?_) | ((with_reducible refine WayR.imp (fun K hK => ?_)); simp (disch := first | omega | (simp only [dls]; omega)) only [std, reduceIte, reduceCtorEq, Int.reduceToNat, Nat.reduceAdd, Nat.reduceSub, Nat.reduceMul, Int.reduceAdd, Int.reduceSub, Int.reduceMul, Int.reduceNeg, fU]; subst hK))
  refine awp_loop (fun (zz : Nat) => ⟨(aI (n / 2 ^ zz : Nat) :: aI k :: .junk :: .junk :: .junk :: aI zz :: .junk :: .junk :: .junk :: .junk :: .junk :: .junk :: .junk :: .junk :: .junk :: .junk :: []), []⟩) (fun (zz : Nat) => zz ≤ k) (fun (zz : Nat) => k - zz) (0) ?hI1 (Fgt.head (Nat.le_refl _) [true, true, false, false, false, true] ?hT1 ?hH1) ?hB1
  case hT1 => first | (simp (disch := omega) only [hds, liveT, cleanAV, cleanCell, clean1, cleanBlk, reduceIte, Int.reduceSub, Int.reduceAdd, Int.reduceNeg, h0]; done) | rfl
  case hH1 => first | (simp (disch := omega) only [hds, liveT, cleanAV, cleanCell, clean1, cleanBlk, reduceIte, Int.reduceSub, Int.reduceAdd, Int.reduceNeg, h0]; done) | rfl
  · exact Nat.zero_le _
  rintro i hi
  have hle := half_le n i
  have hp := half_pow n i
  unfold bitN
  by_cases him : i = k
  · rw [him] at hle ⊢
    generalize n / 2 ^ k = x at *
    have hm2 : x % 2 < 2 := Nat.mod_lt _ (by decide)
    by_cases h : x % 2 = 1
    · rw [decide_eq_true h]
      repeat (first | (with_reducible first | refine Way.imp ?_ | refine blk_o rfl ?_) | ((with_reducible refine WayR.imp (fun K hK => ?_)); simp (disch := first | omega | (simp only [dls]; omega)) only [std, reduceIte, reduceCtorEq, Int.reduceToNat, Nat.reduceAdd, Nat.reduceSub, Nat.reduceMul, Int.reduceAdd, Int.reduceSub, Int.reduceMul, Int.reduceNeg, fU, tmod_two, h]; subst hK))
      exact ⟨_, rfl, rfl⟩
    · rw [decide_eq_false h]
      have h0' : x % 2 = 0 := by omega
      repeat (first | (with_reducible first | refine Way.imp ?_ | refine blk_o rfl ?_) | ((with_reducible refine WayR.imp (fun K hK => ?_)); simp (disch := first | omega | (simp only [dls]; omega)) only [std, reduceIte, reduceCtorEq, Int.reduceToNat, Nat.reduceAdd, Nat.reduceSub, Nat.reduceMul, Int.reduceAdd, Int.reduceSub, Int.reduceMul, Int.reduceNeg, fU, tmod_two, h0']; subst hK))
      exact ⟨_, rfl, rfl⟩
  · have hlt : i < k := by omega
    generalize n / 2 ^ i = x at *
    repeat (first | (with_reducible first | refine Way.imp ?_ | refine blk_o rfl ?_) | ((with_reducible refine WayR.imp (fun K hK => ?_)); simp (disch := first | omega | (simp only [dls]; omega)) only [std, reduceIte, reduceCtorEq, Int.reduceToNat, Nat.reduceAdd, Nat.reduceSub, Nat.reduceMul, Int.reduceAdd, Int.reduceSub, Int.reduceMul, Int.reduceNeg, fU, tdiv_two]; subst hK))
    refine ⟨(i + 1), ?hI2, ?hM2, Fgt.head (Nat.le_refl _) [true, true, false, false, false, true] ?hT2 ?hH2⟩
    case hT2 => first | (simp (disch := omega) only [hds, liveT, cleanAV, cleanCell, clean1, cleanBlk, reduceIte, Int.reduceSub, Int.reduceAdd, Int.reduceNeg, hp]; done) | rfl
    case hH2 => first | (simp (disch := omega) only [hds, liveT, cleanAV, cleanCell, clean1, cleanBlk, reduceIte, Int.reduceSub, Int.reduceAdd, Int.reduceNeg, hp]; done) | rfl
    · omega
    · show k - (i + 1) < k - i; omega

def okR (n : Nat) (r : Rul) : Bool := !((r.tog && (bitN n r.a.toNat != bitN n r.b.toNat)) || (!r.tog && (bitN n r.a.toNat && bitN n r.b.toNat)))
def okL (l : RL) (n i : Nat) : Bool := okR n (rlAt l i)
def keepsB (l : RL) (set : Int) : Bool := rightRl l && (decide (0 ≤ set) && allK (okL l set.toNat) (osl l).length)
theorem rl_in {l : RL} (h : rightRl l = true) {i : Nat} (hi : i < (osl l).length) : (0 ≤ (osl l)[i].a ∧ (osl l)[i].a < 12) ∧ (0 ≤ (osl l)[i].b ∧ (osl l)[i].b < 12) ∧ (osl l)[i].a ≠ (osl l)[i].b := by
  unfold rightRl at h
  simp only [Bool.and_eq_true] at h
  have := anyI_false (by simpa using h.2) hi
  unfold rlBad badR in12 at this
  rw [rlAt_in hi] at this
  simp only [Bool.or_eq_false_iff, Bool.not_eq_false', Bool.and_eq_true, decide_eq_true_eq, decide_eq_false_iff_not] at this
  exact ⟨this.1, this.2.1, this.2.2⟩
theorem rl_len {l : RL} (h : rightRl l = true) : (osl l).length ≤ 200 := by
  unfold rightRl at h
  simp only [Bool.and_eq_true, decide_eq_true_eq] at h
  exact h.1

/-- One bit, as the program has it. -/
theorem shr_bit (n a : Nat) (hn : n < 9223372036854775808) (ha : a < 12) : andI .i64 (shrI .i64 ((n : Nat) : Int) a) 1 = if bitN n a then 1 else 0 := by
  have e1 : shrI .i64 ((n : Nat) : Int) a = ((n / 2 ^ a : Nat) : Int) := by
    unfold shrI
    have : min a IntKind.i64.bits = a := by show min a 64 = a; omega
    rw [this]
    have e2 : ((2 : Int) ^ a) = ((2 ^ a : Nat) : Int) := by push_cast; rfl
    rw [e2, Int.fdiv_eq_ediv_of_nonneg _ (Int.natCast_nonneg _)]
    rfl
  have hle := half_le n a
  rw [e1]
  unfold bitN andI
  generalize n / 2 ^ a = x at *
  have e3 : (BitVec.ofInt IntKind.i64.bits ((x : Nat) : Int) &&& BitVec.ofInt IntKind.i64.bits 1).toNat = x % 2 := by
    rw [BitVec.toNat_and]
    have a1 : (BitVec.ofInt IntKind.i64.bits ((x : Nat) : Int)).toNat = x := by
      rw [BitVec.toNat_ofInt]
      show (((x : Nat) : Int) % ((2 ^ 64 : Nat) : Int)).toNat = x
      omega
    have a2 : (BitVec.ofInt IntKind.i64.bits 1).toNat = 1 := by decide
    rw [a1, a2, Nat.and_one_is_mod]
  rw [e3]
  have hm2 : x % 2 < 2 := Nat.mod_lt _ (by decide)
  by_cases h : x % 2 = 1
  · rw [h]; decide
  · have h0 : x % 2 = 0 := by omega
    rw [h0]; decide

abbrev c33_k1 : CC := (.seq (.reg [⟨(some 4), none, (.mv (.const (.bool true)))⟩]) .ret)
abbrev c33_b1 : CC := (.seq (.reg [⟨(some 19), none, (.bin .lss (.tmp 18) (.tmp 17))⟩]) (.seq (.cond (.tmp 19) .skip (.exit 0)) (.seq (.block 1 (.seq (.reg [⟨(some 20), none, (.iaddr 3 none (.tmp 16) (.tmp 18))⟩, ⟨(some 21), none, (.load 3 true (.tmp 20))⟩, ⟨(some 6), none, (.new 63 [(.int .i64 (0)), (.int .i64 (0)), (.bool false)])⟩, ⟨none, none, (.store 3 (.tmp 6) (.tmp 21))⟩]) (.seq (.reg [⟨(some 22), none, (.mv (.tmp 1))⟩, ⟨(some 23), none, (.faddr 0 (.tmp 6))⟩, ⟨(some 24), none, (.load 1 false (.tmp 23))⟩, ⟨(some 25), none, (.bin .shr (.tmp 22) (.tmp 24))⟩, ⟨(some 26), none, (.bin .and (.tmp 25) (.const (.int .i64 (1))))⟩, ⟨(some 27), none, (.bin .eql (.tmp 26) (.const (.int .i64 (1))))⟩, ⟨(some 28), none, (.mv (.tmp 1))⟩, ⟨(some 29), none, (.faddr 1 (.tmp 6))⟩, ⟨(some 30), none, (.load 1 false (.tmp 29))⟩, ⟨(some 31), none, (.bin .shr (.tmp 28) (.tmp 30))⟩, ⟨(some 32), none, (.bin .and (.tmp 31) (.const (.int .i64 (1))))⟩, ⟨(some 33), none, (.bin .eql (.tmp 32) (.const (.int .i64 (1))))⟩, ⟨(some 7), none, (.mv (.tmp 27))⟩, ⟨(some 8), none, (.mv (.tmp 33))⟩]) (.seq (.reg [⟨(some 34), none, (.faddr 2 (.tmp 6))⟩, ⟨(some 35), none, (.load 1 false (.tmp 34))⟩, ⟨(some 36), none, (.mv (.tmp 35))⟩, ⟨(some 37), (some (36, true)), (.mv (.tmp 7))⟩, ⟨(some 38), (some (36, true)), (.mv (.tmp 8))⟩, ⟨(some 39), (some (36, true)), (.beq true (.tmp 37) (.tmp 38))⟩, ⟨(some 40), none, (.pick (.tmp 36) (.tmp 39) (.const (.bool false)))⟩, ⟨(some 41), none, (.mv (.tmp 40))⟩, ⟨(some 42), (some (41, false)), (.faddr 2 (.tmp 6))⟩, ⟨(some 43), (some (41, false)), (.load 1 false (.tmp 42))⟩, ⟨(some 44), (some (41, false)), (.un .not (.tmp 43))⟩, ⟨(some 45), (some (41, false)), (.mv (.tmp 44))⟩, ⟨(some 46), (some (45, true)), (.mv (.tmp 7))⟩, ⟨(some 47), (some (41, false)), (.pick (.tmp 45) (.tmp 46) (.const (.bool false)))⟩, ⟨(some 48), (some (41, false)), (.mv (.tmp 47))⟩, ⟨(some 49), (some (48, true)), (.mv (.tmp 8))⟩, ⟨(some 50), (some (41, false)), (.pick (.tmp 48) (.tmp 49) (.const (.bool false)))⟩, ⟨(some 51), none, (.pick (.tmp 41) (.const (.bool true)) (.tmp 50))⟩]) (.cond (.tmp 51) (.seq (.reg [⟨(some 4), none, (.mv (.const (.bool false)))⟩]) .ret) .skip))))) (.reg [⟨(some 52), none, (.bin .add (.tmp 18) (.const (.int .i64 (1))))⟩, ⟨(some 18), none, (.mv (.tmp 52))⟩]))))
abbrev c33 : CC := (.seq (.reg [⟨(some 4), none, (.mv (.const (.bool false)))⟩]) (.seq (.seq (.reg [⟨(some 9), none, (.mv (.tmp 0))⟩, ⟨(some 10), none, (.callf (.func 30) [(.tmp 9)])⟩, ⟨(some 11), none, (.un .not (.tmp 10))⟩, ⟨(some 12), none, (.mv (.tmp 11))⟩, ⟨(some 13), (some (12, false)), (.mv (.tmp 1))⟩, ⟨(some 14), (some (12, false)), (.bin .lss (.tmp 13) (.const (.int .i64 (0))))⟩, ⟨(some 15), none, (.pick (.tmp 12) (.const (.bool true)) (.tmp 14))⟩]) (.cond (.tmp 15) (.seq (.reg [⟨(some 4), none, (.mv (.const (.bool false)))⟩]) .ret) .skip)) (.seq (.seq (.reg [⟨(some 16), none, (.mv (.tmp 0))⟩, ⟨(some 17), none, (.len false (.tmp 16))⟩, ⟨(some 18), none, (.mv (.const (.int .i64 (0))))⟩]) (.block 0 (.loop c33_b1))) c33_k1)))
theorem cc33 : ccode Tryd.prog [] (Tryd.f33.body.getD .skip) = some c33 := by kernel_rfl
theorem body33 : Tryd.f33.body = some (Tryd.f33.body.getD .skip) := rfl

theorem keeps_C (l : RL) (set : Int) (hs : set ≤ 9223372036854775807) : PureC Tryd.prog 33 [aRl l, aI set] (.ret (aB (keepsB l set))) := by
  have hr := pright_C l
  unfold keepsB
  cases c1 : rightRl l with
  | false =>
    rw [c1] at hr
    rw [Bool.false_and]
    refine pureC_of (rs := [(RV.tmp 4)]) Tryd.func33 (fun a w => Tryd.call33 a w) body33 cc33 (by kernel_rfl) ?_
    rw [Tryd.ntmps33]
    simp only [frs, Nat.reduceAdd, Nat.reduceSub]
    repeat (first | (with_reducible first | refine Way.imp ?_ | refine blk_o rfl ?_) | ((with_reducible refine WayR.imp (fun K hK => ?_)); simp (disch := first | omega | (simp only [dls]; omega)) only [std, reduceIte, reduceCtorEq, Int.reduceToNat, Nat.reduceAdd, Nat.reduceSub, Nat.reduceMul, Int.reduceAdd, Int.reduceSub, Int.reduceMul, Int.reduceNeg, fU]; subst hK) | refine zcA (hr) rfl rfl rfl ?_)
    exact ⟨_, rfl, rfl⟩
  | true =>
  rw [c1] at hr
  rw [Bool.true_and]
  by_cases h0 : 0 ≤ set
  case neg =>
    rw [decide_eq_false h0, Bool.false_and]
    refine pureC_of (rs := [(RV.tmp 4)]) Tryd.func33 (fun a w => Tryd.call33 a w) body33 cc33 (by kernel_rfl) ?_
    rw [Tryd.ntmps33]
    simp only [frs, Nat.reduceAdd, Nat.reduceSub]
    repeat (first | (with_reducible first | refine Way.imp ?_ | refine blk_o rfl ?_) | ((with_reducible refine WayR.imp (fun K hK => ?_)); simp (disch := first | omega | (simp only [dls]; omega)) only [std, reduceIte, reduceCtorEq, Int.reduceToNat, Nat.reduceAdd, Nat.reduceSub, Nat.reduceMul, Int.reduceAdd, Int.reduceSub, Int.reduceMul, Int.reduceNeg, fU]; subst hK) | refine zcA (hr) rfl rfl rfl ?_)
    exact ⟨_, rfl, rfl⟩
  rw [decide_eq_true h0, Bool.true_and]
  obtain ⟨n, hn⟩ : ∃ n : Nat, set = (n : Int) := ⟨set.toNat, by omega⟩
  subst hn
  rw [Int.toNat_natCast]
  have hn : n < 9223372036854775808 := by omega
  have hl := rl_len c1
  refine pureC_of (rs := [(RV.tmp 4)]) Tryd.func33 (fun a w => Tryd.call33 a w) body33 cc33 (by kernel_rfl) ?_
  rw [Tryd.ntmps33]
  simp only [frs, Nat.reduceAdd, Nat.reduceSub]
  repeat (first | (with_reducible first | refine Way.imp ?_ | refine blk_o rfl ?_) | ((with_reducible refine WayR.imp (fun K hK => ?_)); simp (disch := first | omega | (simp only [dls]; omega)) only [std, reduceIte, reduceCtorEq, Int.reduceToNat, Nat.reduceAdd, Nat.reduceSub, Nat.reduceMul, Int.reduceAdd, Int.reduceSub, Int.reduceMul, Int.reduceNeg, fU]; subst hK) | refine zcA (hr) rfl rfl rfl ?_)
  refine awp_loop (fun (zz : Nat) => ⟨(.junk :: aI n :: .junk :: .junk :: .junk :: .junk :: .junk :: .junk :: .junk :: .junk :: .junk :: .junk :: .junk :: .junk :: .junk :: .junk :: aRl l :: aI (osl l).length :: aI zz :: .junk :: .junk :: .junk :: .junk :: .junk :: .junk :: .junk :: .junk :: .junk :: .junk :: .junk :: .junk :: .junk :: .junk :: .junk :: .junk :: .junk :: .junk :: .junk :: .junk :: .junk :: .junk :: .junk :: .junk :: .junk :: .junk :: .junk :: .junk :: .junk :: .junk :: .junk :: .junk :: .junk :: .junk :: []), []⟩) (fun (zz : Nat) => zz ≤ (osl l).length ∧ allK (okL l n) zz = true) (fun (zz : Nat) => (osl l).length - zz) (0) ?hI3 (Fgt.head (Nat.le_refl _) [false, true, false, false, false, false, false, false, false, false, false, false, false, false, false, false, true, true, true] ?hT3 ?hH3) ?hB3
  case hT3 => first | (simp (disch := omega) only [hds, liveT, cleanAV, cleanCell, clean1, cleanBlk, reduceIte, Int.reduceSub, Int.reduceAdd, Int.reduceNeg]; done) | rfl
  case hH3 => first | (simp (disch := omega) only [hds, liveT, cleanAV, cleanCell, clean1, cleanBlk, reduceIte, Int.reduceSub, Int.reduceAdd, Int.reduceNeg]; done) | rfl
  · exact ⟨Nat.zero_le _, rfl⟩
  rintro i ⟨hi, hs⟩
  by_cases him : i = (osl l).length
  · rw [← him, hs]
    repeat (first | (with_reducible first | refine Way.imp ?_ | refine blk_o rfl ?_) | ((with_reducible refine WayR.imp (fun K hK => ?_)); simp (disch := first | omega | (simp only [dls]; omega)) only [std, reduceIte, reduceCtorEq, Int.reduceToNat, Nat.reduceAdd, Nat.reduceSub, Nat.reduceMul, Int.reduceAdd, Int.reduceSub, Int.reduceMul, Int.reduceNeg, fU]; subst hK))
    exact ⟨_, rfl, rfl⟩
  have hlt : i < (osl l).length := by omega
  obtain ⟨⟨a0, a1⟩, ⟨b0, b1⟩, _⟩ := rl_in c1 hlt
  have ea := shr_bit n (osl l)[i].a.toNat hn (by omega)
  have eb := shr_bit n (osl l)[i].b.toNat hn (by omega)
  have hok : okL l n i = !(((osl l)[i].tog && (bitN n (osl l)[i].a.toNat != bitN n (osl l)[i].b.toNat)) || (!(osl l)[i].tog && (bitN n (osl l)[i].a.toNat && bitN n (osl l)[i].b.toNat))) := by unfold okL okR; rw [rlAt_in hlt]
  generalize hga : bitN n (osl l)[i].a.toNat = ba at *
  generalize hgb : bitN n (osl l)[i].b.toNat = bb at *
  cases htg : (osl l)[i].tog <;> cases ba <;> cases bb <;> rw [htg] at hok <;> simp only [Bool.not_true, Bool.not_false, Bool.true_and, Bool.false_and, Bool.and_true, Bool.and_false, Bool.or_false, Bool.false_or, bne_self_eq_false, Bool.true_bne, Bool.false_bne, Bool.bne_true, Bool.bne_false, if_true, if_false, reduceIte, Bool.false_eq_true] at hok ea eb
  · repeat (first | (with_reducible first | refine Way.imp ?_ | refine blk_o rfl ?_) | ((with_reducible refine WayR.imp (fun K hK => ?_)); simp (disch := first | omega | (simp only [dls]; omega)) only [std, reduceIte, reduceCtorEq, Int.reduceToNat, Nat.reduceAdd, Nat.reduceSub, Nat.reduceMul, Int.reduceAdd, Int.reduceSub, Int.reduceMul, Int.reduceNeg, fU, fRl, ea, eb, htg]; subst hK))
    refine ⟨(i + 1), ?hI4, ?hM4, Fgt.head (Nat.le_refl _) [false, true, false, false, false, false, false, false, false, false, false, false, false, false, false, false, true, true, true] ?hT4 ?hH4⟩
    case hT4 => first | (simp (disch := omega) only [hds, liveT, cleanAV, cleanCell, clean1, cleanBlk, reduceIte, Int.reduceSub, Int.reduceAdd, Int.reduceNeg]; done) | rfl
    case hH4 => first | (simp (disch := omega) only [hds, liveT, cleanAV, cleanCell, clean1, cleanBlk, reduceIte, Int.reduceSub, Int.reduceAdd, Int.reduceNeg]; done) | rfl
    · exact ⟨hlt, by rw [allK_succ, hs, hok]; rfl⟩
    · show (osl l).length - (i + 1) < (osl l).length - i; omega
  · repeat (first | (with_reducible first | refine Way.imp ?_ | refine blk_o rfl ?_) | ((with_reducible refine WayR.imp (fun K hK => ?_)); simp (disch := first | omega | (simp only [dls]; omega)) only [std, reduceIte, reduceCtorEq, Int.reduceToNat, Nat.reduceAdd, Nat.reduceSub, Nat.reduceMul, Int.reduceAdd, Int.reduceSub, Int.reduceMul, Int.reduceNeg, fU, fRl, ea, eb, htg]; subst hK))
    refine ⟨(i + 1), ?hI5, ?hM5, Fgt.head (Nat.le_refl _) [false, true, false, false, false, false, false, false, false, false, false, false, false, false, false, false, true, true, true] ?hT5 ?hH5⟩
    case hT5 => first | (simp (disch := omega) only [hds, liveT, cleanAV, cleanCell, clean1, cleanBlk, reduceIte, Int.reduceSub, Int.reduceAdd, Int.reduceNeg]; done) | rfl
    case hH5 => first | (simp (disch := omega) only [hds, liveT, cleanAV, cleanCell, clean1, cleanBlk, reduceIte, Int.reduceSub, Int.reduceAdd, Int.reduceNeg]; done) | rfl
    · exact ⟨hlt, by rw [allK_succ, hs, hok]; rfl⟩
    · show (osl l).length - (i + 1) < (osl l).length - i; omega
  · repeat (first | (with_reducible first | refine Way.imp ?_ | refine blk_o rfl ?_) | ((with_reducible refine WayR.imp (fun K hK => ?_)); simp (disch := first | omega | (simp only [dls]; omega)) only [std, reduceIte, reduceCtorEq, Int.reduceToNat, Nat.reduceAdd, Nat.reduceSub, Nat.reduceMul, Int.reduceAdd, Int.reduceSub, Int.reduceMul, Int.reduceNeg, fU, fRl, ea, eb, htg]; subst hK))
    refine ⟨(i + 1), ?hI6, ?hM6, Fgt.head (Nat.le_refl _) [false, true, false, false, false, false, false, false, false, false, false, false, false, false, false, false, true, true, true] ?hT6 ?hH6⟩
    case hT6 => first | (simp (disch := omega) only [hds, liveT, cleanAV, cleanCell, clean1, cleanBlk, reduceIte, Int.reduceSub, Int.reduceAdd, Int.reduceNeg]; done) | rfl
    case hH6 => first | (simp (disch := omega) only [hds, liveT, cleanAV, cleanCell, clean1, cleanBlk, reduceIte, Int.reduceSub, Int.reduceAdd, Int.reduceNeg]; done) | rfl
    · exact ⟨hlt, by rw [allK_succ, hs, hok]; rfl⟩
    · show (osl l).length - (i + 1) < (osl l).length - i; omega
  · rw [allK_false hlt hok]
    repeat (first | (with_reducible first | refine Way.imp ?_ | refine blk_o rfl ?_) | ((with_reducible refine WayR.imp (fun K hK => ?_)); simp (disch := first | omega | (simp only [dls]; omega)) only [std, reduceIte, reduceCtorEq, Int.reduceToNat, Nat.reduceAdd, Nat.reduceSub, Nat.reduceMul, Int.reduceAdd, Int.reduceSub, Int.reduceMul, Int.reduceNeg, fU, fRl, ea, eb, htg]; subst hK))
    exact ⟨_, rfl, rfl⟩
  · repeat (first | (with_reducible first | refine Way.imp ?_ | refine blk_o rfl ?_) | ((with_reducible refine WayR.imp (fun K hK => ?_)); simp (disch := first | omega | (simp only [dls]; omega)) only [std, reduceIte, reduceCtorEq, Int.reduceToNat, Nat.reduceAdd, Nat.reduceSub, Nat.reduceMul, Int.reduceAdd, Int.reduceSub, Int.reduceMul, Int.reduceNeg, fU, fRl, ea, eb, htg]; subst hK))
    refine ⟨(i + 1), ?hI7, ?hM7, Fgt.head (Nat.le_refl _) [false, true, false, false, false, false, false, false, false, false, false, false, false, false, false, false, true, true, true] ?hT7 ?hH7⟩
    case hT7 => first | (simp (disch := omega) only [hds, liveT, cleanAV, cleanCell, clean1, cleanBlk, reduceIte, Int.reduceSub, Int.reduceAdd, Int.reduceNeg]; done) | rfl
    case hH7 => first | (simp (disch := omega) only [hds, liveT, cleanAV, cleanCell, clean1, cleanBlk, reduceIte, Int.reduceSub, Int.reduceAdd, Int.reduceNeg]; done) | rfl
    · exact ⟨hlt, by rw [allK_succ, hs, hok]; rfl⟩
    · show (osl l).length - (i + 1) < (osl l).length - i; omega
  · rw [allK_false hlt hok]
    repeat (first | (with_reducible first | refine Way.imp ?_ | refine blk_o rfl ?_) | ((with_reducible refine WayR.imp (fun K hK => ?_)); simp (disch := first | omega | (simp only [dls]; omega)) only [std, reduceIte, reduceCtorEq, Int.reduceToNat, Nat.reduceAdd, Nat.reduceSub, Nat.reduceMul, Int.reduceAdd, Int.reduceSub, Int.reduceMul, Int.reduceNeg, fU, fRl, ea, eb, htg]; subst hK))
    exact ⟨_, rfl, rfl⟩
  · rw [allK_false hlt hok]
    repeat (first | (with_reducible first | refine Way.imp ?_ | refine blk_o rfl ?_) | ((with_reducible refine WayR.imp (fun K hK => ?_)); simp (disch := first | omega | (simp only [dls]; omega)) only [std, reduceIte, reduceCtorEq, Int.reduceToNat, Nat.reduceAdd, Nat.reduceSub, Nat.reduceMul, Int.reduceAdd, Int.reduceSub, Int.reduceMul, Int.reduceNeg, fU, fRl, ea, eb, htg]; subst hK))
    exact ⟨_, rfl, rfl⟩
  · repeat (first | (with_reducible first | refine Way.imp ?_ | refine blk_o rfl ?_) | ((with_reducible refine WayR.imp (fun K hK => ?_)); simp (disch := first | omega | (simp only [dls]; omega)) only [std, reduceIte, reduceCtorEq, Int.reduceToNat, Nat.reduceAdd, Nat.reduceSub, Nat.reduceMul, Int.reduceAdd, Int.reduceSub, Int.reduceMul, Int.reduceNeg, fU, fRl, ea, eb, htg]; subst hK))
    refine ⟨(i + 1), ?hI8, ?hM8, Fgt.head (Nat.le_refl _) [false, true, false, false, false, false, false, false, false, false, false, false, false, false, false, false, true, true, true] ?hT8 ?hH8⟩
    case hT8 => first | (simp (disch := omega) only [hds, liveT, cleanAV, cleanCell, clean1, cleanBlk, reduceIte, Int.reduceSub, Int.reduceAdd, Int.reduceNeg]; done) | rfl
    case hH8 => first | (simp (disch := omega) only [hds, liveT, cleanAV, cleanCell, clean1, cleanBlk, reduceIte, Int.reduceSub, Int.reduceAdd, Int.reduceNeg]; done) | rfl
    · exact ⟨hlt, by rw [allK_succ, hs, hok]; rfl⟩
    · show (osl l).length - (i + 1) < (osl l).length - i; omega

abbrev c34_k1 : CC := (.seq (.reg [⟨(some 4), none, (.mv (.const (.bool true)))⟩]) .ret)
abbrev c34_b1 : CC := (.seq (.seq (.reg [⟨(some 14), none, (.mv (.tmp 5))⟩, ⟨(some 15), none, (.mv (.tmp 0))⟩, ⟨(some 16), none, (.len false (.tmp 15))⟩, ⟨(some 17), none, (.bin .lss (.tmp 14) (.tmp 16))⟩]) (.cond (.tmp 17) .skip (.exit 0))) (.seq (.block 1 (.seq (.reg [⟨(some 6), none, (.mv (.const (.int .i64 (0))))⟩]) (.seq (.seq (.reg [⟨(some 20), none, (.mv (.tmp 1))⟩, ⟨(some 21), none, (.mv (.tmp 0))⟩, ⟨(some 22), none, (.mv (.tmp 5))⟩, ⟨(some 23), none, (.iaddr 3 none (.tmp 21) (.tmp 22))⟩, ⟨(some 24), none, (.faddr 0 (.tmp 23))⟩, ⟨(some 25), none, (.load 1 false (.tmp 24))⟩, ⟨(some 26), none, (.callf (.func 37) [(.tmp 20), (.tmp 25)])⟩]) (.cond (.tmp 26) (.reg [⟨(some 27), none, (.mv (.tmp 6))⟩, ⟨(some 28), none, (.bin .add (.tmp 27) (.const (.int .i64 (1))))⟩, ⟨(some 6), none, (.mv (.tmp 28))⟩]) .skip)) (.seq (.seq (.reg [⟨(some 29), none, (.mv (.tmp 1))⟩, ⟨(some 30), none, (.mv (.tmp 0))⟩, ⟨(some 31), none, (.mv (.tmp 5))⟩, ⟨(some 32), none, (.iaddr 3 none (.tmp 30) (.tmp 31))⟩, ⟨(some 33), none, (.faddr 1 (.tmp 32))⟩, ⟨(some 34), none, (.load 1 false (.tmp 33))⟩, ⟨(some 35), none, (.callf (.func 37) [(.tmp 29), (.tmp 34)])⟩]) (.cond (.tmp 35) (.reg [⟨(some 36), none, (.mv (.tmp 6))⟩, ⟨(some 37), none, (.bin .add (.tmp 36) (.const (.int .i64 (1))))⟩, ⟨(some 6), none, (.mv (.tmp 37))⟩]) .skip)) (.seq (.reg [⟨(some 38), none, (.mv (.tmp 0))⟩, ⟨(some 39), none, (.mv (.tmp 5))⟩, ⟨(some 40), none, (.iaddr 3 none (.tmp 38) (.tmp 39))⟩, ⟨(some 41), none, (.faddr 2 (.tmp 40))⟩, ⟨(some 42), none, (.load 1 false (.tmp 41))⟩, ⟨(some 43), none, (.mv (.tmp 42))⟩, ⟨(some 44), (some (43, true)), (.mv (.tmp 6))⟩, ⟨(some 45), (some (43, true)), (.bin .eql (.tmp 44) (.const (.int .i64 (1))))⟩, ⟨(some 46), none, (.pick (.tmp 43) (.tmp 45) (.const (.bool false)))⟩, ⟨(some 47), none, (.mv (.tmp 46))⟩, ⟨(some 48), (some (47, false)), (.mv (.tmp 0))⟩, ⟨(some 49), (some (47, false)), (.mv (.tmp 5))⟩, ⟨(some 50), (some (47, false)), (.iaddr 3 none (.tmp 48) (.tmp 49))⟩, ⟨(some 51), (some (47, false)), (.faddr 2 (.tmp 50))⟩, ⟨(some 52), (some (47, false)), (.load 1 false (.tmp 51))⟩, ⟨(some 53), (some (47, false)), (.un .not (.tmp 52))⟩, ⟨(some 54), (some (47, false)), (.mv (.tmp 53))⟩, ⟨(some 55), (some (54, true)), (.mv (.tmp 6))⟩, ⟨(some 56), (some (54, true)), (.bin .eql (.tmp 55) (.const (.int .i64 (2))))⟩, ⟨(some 57), (some (47, false)), (.pick (.tmp 54) (.tmp 56) (.const (.bool false)))⟩, ⟨(some 58), none, (.pick (.tmp 47) (.const (.bool true)) (.tmp 57))⟩]) (.cond (.tmp 58) (.seq (.reg [⟨(some 4), none, (.mv (.const (.bool false)))⟩]) .ret) .skip)))))) (.reg [⟨(some 18), none, (.mv (.tmp 5))⟩, ⟨(some 19), none, (.bin .add (.tmp 18) (.const (.int .i64 (1))))⟩, ⟨(some 5), none, (.mv (.tmp 19))⟩])))
abbrev c34 : CC := (.seq (.reg [⟨(some 4), none, (.mv (.const (.bool false)))⟩]) (.seq (.seq (.reg [⟨(some 7), none, (.mv (.tmp 0))⟩, ⟨(some 8), none, (.callf (.func 31) [(.tmp 7)])⟩, ⟨(some 9), none, (.un .not (.tmp 8))⟩, ⟨(some 10), none, (.mv (.tmp 9))⟩, ⟨(some 11), (some (10, false)), (.mv (.tmp 1))⟩, ⟨(some 12), (some (10, false)), (.bin .lss (.tmp 11) (.const (.int .i64 (0))))⟩, ⟨(some 13), none, (.pick (.tmp 10) (.const (.bool true)) (.tmp 12))⟩]) (.cond (.tmp 13) (.seq (.reg [⟨(some 4), none, (.mv (.const (.bool false)))⟩]) .ret) .skip)) (.seq (.seq (.reg [⟨(some 5), none, (.mv (.const (.int .i64 (0))))⟩]) (.block 0 (.loop c34_b1))) c34_k1)))
theorem cc34 : ccode Tryd.prog [] (Tryd.f34.body.getD .skip) = some c34 := by kernel_rfl
theorem body34 : Tryd.f34.body = some (Tryd.f34.body.getD .skip) := rfl

theorem keeps18_C (l : RL) (set : Int) (hs : set ≤ 9223372036854775807) (hl0 : (osl l).length ≤ 1000000) : PureC Tryd.prog 34 [aRl l, aI set] (.ret (aB (keepsB l set))) := by
  have hr := rright18_C l hl0
  unfold keepsB
  cases c1 : rightRl l with
  | false =>
    rw [c1] at hr
    rw [Bool.false_and]
    refine pureC_of (rs := [(RV.tmp 4)]) Tryd.func34 (fun a w => Tryd.call34 a w) body34 cc34 (by kernel_rfl) ?_
    rw [Tryd.ntmps34]
    simp only [frs, Nat.reduceAdd, Nat.reduceSub]
    repeat (first | (with_reducible first | refine Way.imp ?_ | refine blk_o rfl ?_) | ((with_reducible refine WayR.imp (fun K hK => ?_)); simp (disch := first | omega | (simp only [dls]; omega)) only [std, reduceIte, reduceCtorEq, Int.reduceToNat, Nat.reduceAdd, Nat.reduceSub, Nat.reduceMul, Int.reduceAdd, Int.reduceSub, Int.reduceMul, Int.reduceNeg, fU]; subst hK) | refine zcA (hr) rfl rfl rfl ?_)
    exact ⟨_, rfl, rfl⟩
  | true =>
  rw [c1] at hr
  rw [Bool.true_and]
  by_cases h0 : 0 ≤ set
  case neg =>
    rw [decide_eq_false h0, Bool.false_and]
    refine pureC_of (rs := [(RV.tmp 4)]) Tryd.func34 (fun a w => Tryd.call34 a w) body34 cc34 (by kernel_rfl) ?_
    rw [Tryd.ntmps34]
    simp only [frs, Nat.reduceAdd, Nat.reduceSub]
    repeat (first | (with_reducible first | refine Way.imp ?_ | refine blk_o rfl ?_) | ((with_reducible refine WayR.imp (fun K hK => ?_)); simp (disch := first | omega | (simp only [dls]; omega)) only [std, reduceIte, reduceCtorEq, Int.reduceToNat, Nat.reduceAdd, Nat.reduceSub, Nat.reduceMul, Int.reduceAdd, Int.reduceSub, Int.reduceMul, Int.reduceNeg, fU]; subst hK) | refine zcA (hr) rfl rfl rfl ?_)
    exact ⟨_, rfl, rfl⟩
  rw [decide_eq_true h0, Bool.true_and]
  obtain ⟨n, hn⟩ : ∃ n : Nat, set = (n : Int) := ⟨set.toNat, by omega⟩
  subst hn
  rw [Int.toNat_natCast]
  have hn : n < 9223372036854775808 := by omega
  have hl := rl_len c1
  refine pureC_of (rs := [(RV.tmp 4)]) Tryd.func34 (fun a w => Tryd.call34 a w) body34 cc34 (by kernel_rfl) ?_
  rw [Tryd.ntmps34]
  simp only [frs, Nat.reduceAdd, Nat.reduceSub]
  repeat (first | (with_reducible first | refine Way.imp ?_ | refine blk_o rfl ?_) | ((with_reducible refine WayR.imp (fun K hK => ?_)); simp (disch := first | omega | (simp only [dls]; omega)) only [std, reduceIte, reduceCtorEq, Int.reduceToNat, Nat.reduceAdd, Nat.reduceSub, Nat.reduceMul, Int.reduceAdd, Int.reduceSub, Int.reduceMul, Int.reduceNeg, fU]; subst hK) | refine zcA (hr) rfl rfl rfl ?_)
  refine awp_loop (fun (zz : Nat) => ⟨(aRl l :: aI n :: .junk :: .junk :: .junk :: aI zz :: .junk :: .junk :: .junk :: .junk :: .junk :: .junk :: .junk :: .junk :: .junk :: .junk :: .junk :: .junk :: .junk :: .junk :: .junk :: .junk :: .junk :: .junk :: .junk :: .junk :: .junk :: .junk :: .junk :: .junk :: .junk :: .junk :: .junk :: .junk :: .junk :: .junk :: .junk :: .junk :: .junk :: .junk :: .junk :: .junk :: .junk :: .junk :: .junk :: .junk :: .junk :: .junk :: .junk :: .junk :: .junk :: .junk :: .junk :: .junk :: .junk :: .junk :: .junk :: .junk :: .junk :: []), []⟩) (fun (zz : Nat) => zz ≤ (osl l).length ∧ allK (okL l n) zz = true) (fun (zz : Nat) => (osl l).length - zz) (0) ?hI9 (Fgt.head (Nat.le_refl _) [true, true, false, false, false, true] ?hT9 ?hH9) ?hB9
  case hT9 => first | (simp (disch := omega) only [hds, liveT, cleanAV, cleanCell, clean1, cleanBlk, reduceIte, Int.reduceSub, Int.reduceAdd, Int.reduceNeg]; done) | rfl
  case hH9 => first | (simp (disch := omega) only [hds, liveT, cleanAV, cleanCell, clean1, cleanBlk, reduceIte, Int.reduceSub, Int.reduceAdd, Int.reduceNeg]; done) | rfl
  · exact ⟨Nat.zero_le _, rfl⟩
  rintro i ⟨hi, hs⟩
  by_cases him : i = (osl l).length
  · rw [← him, hs]
    repeat (first | (with_reducible first | refine Way.imp ?_ | refine blk_o rfl ?_) | ((with_reducible refine WayR.imp (fun K hK => ?_)); simp (disch := first | omega | (simp only [dls]; omega)) only [std, reduceIte, reduceCtorEq, Int.reduceToNat, Nat.reduceAdd, Nat.reduceSub, Nat.reduceMul, Int.reduceAdd, Int.reduceSub, Int.reduceMul, Int.reduceNeg, fU]; subst hK))
    exact ⟨_, rfl, rfl⟩
  have hlt : i < (osl l).length := by omega
  obtain ⟨⟨a0, a1⟩, ⟨b0, b1⟩, _⟩ := rl_in c1 hlt
  have ea := in_C n (osl l)[i].a.toNat hn (by omega)
  have eb := in_C n (osl l)[i].b.toNat hn (by omega)
  rw [Int.toNat_of_nonneg a0] at ea
  rw [Int.toNat_of_nonneg b0] at eb
  have hok : okL l n i = !(((osl l)[i].tog && (bitN n (osl l)[i].a.toNat != bitN n (osl l)[i].b.toNat)) || (!(osl l)[i].tog && (bitN n (osl l)[i].a.toNat && bitN n (osl l)[i].b.toNat))) := by unfold okL okR; rw [rlAt_in hlt]
  generalize hga : bitN n (osl l)[i].a.toNat = ba at *
  generalize hgb : bitN n (osl l)[i].b.toNat = bb at *
  cases htg : (osl l)[i].tog <;> cases ba <;> cases bb <;> rw [htg] at hok <;> simp only [Bool.not_true, Bool.not_false, Bool.true_and, Bool.false_and, Bool.and_true, Bool.and_false, Bool.or_false, Bool.false_or, bne_self_eq_false, Bool.true_bne, Bool.false_bne, Bool.bne_true, Bool.bne_false] at hok
  · repeat (first | (with_reducible first | refine Way.imp ?_ | refine blk_o rfl ?_) | ((with_reducible refine WayR.imp (fun K hK => ?_)); simp (disch := first | omega | (simp only [dls]; omega)) only [std, reduceIte, reduceCtorEq, Int.reduceToNat, Nat.reduceAdd, Nat.reduceSub, Nat.reduceMul, Int.reduceAdd, Int.reduceSub, Int.reduceMul, Int.reduceNeg, fU, fRl, htg]; subst hK) | refine zcA (ea) rfl rfl rfl ?_ | refine zcA (eb) rfl rfl rfl ?_)
    refine ⟨(i + 1), ?hI10, ?hM10, Fgt.head (Nat.le_refl _) [true, true, false, false, false, true] ?hT10 ?hH10⟩
    case hT10 => first | (simp (disch := omega) only [hds, liveT, cleanAV, cleanCell, clean1, cleanBlk, reduceIte, Int.reduceSub, Int.reduceAdd, Int.reduceNeg]; done) | rfl
    case hH10 => first | (simp (disch := omega) only [hds, liveT, cleanAV, cleanCell, clean1, cleanBlk, reduceIte, Int.reduceSub, Int.reduceAdd, Int.reduceNeg]; done) | rfl
    · exact ⟨hlt, by rw [allK_succ, hs, hok]; rfl⟩
    · show (osl l).length - (i + 1) < (osl l).length - i; omega
  · repeat (first | (with_reducible first | refine Way.imp ?_ | refine blk_o rfl ?_) | ((with_reducible refine WayR.imp (fun K hK => ?_)); simp (disch := first | omega | (simp only [dls]; omega)) only [std, reduceIte, reduceCtorEq, Int.reduceToNat, Nat.reduceAdd, Nat.reduceSub, Nat.reduceMul, Int.reduceAdd, Int.reduceSub, Int.reduceMul, Int.reduceNeg, fU, fRl, htg]; subst hK) | refine zcA (ea) rfl rfl rfl ?_ | refine zcA (eb) rfl rfl rfl ?_)
    refine ⟨(i + 1), ?hI11, ?hM11, Fgt.head (Nat.le_refl _) [true, true, false, false, false, true] ?hT11 ?hH11⟩
    case hT11 => first | (simp (disch := omega) only [hds, liveT, cleanAV, cleanCell, clean1, cleanBlk, reduceIte, Int.reduceSub, Int.reduceAdd, Int.reduceNeg]; done) | rfl
    case hH11 => first | (simp (disch := omega) only [hds, liveT, cleanAV, cleanCell, clean1, cleanBlk, reduceIte, Int.reduceSub, Int.reduceAdd, Int.reduceNeg]; done) | rfl
    · exact ⟨hlt, by rw [allK_succ, hs, hok]; rfl⟩
    · show (osl l).length - (i + 1) < (osl l).length - i; omega
  · repeat (first | (with_reducible first | refine Way.imp ?_ | refine blk_o rfl ?_) | ((with_reducible refine WayR.imp (fun K hK => ?_)); simp (disch := first | omega | (simp only [dls]; omega)) only [std, reduceIte, reduceCtorEq, Int.reduceToNat, Nat.reduceAdd, Nat.reduceSub, Nat.reduceMul, Int.reduceAdd, Int.reduceSub, Int.reduceMul, Int.reduceNeg, fU, fRl, htg]; subst hK) | refine zcA (ea) rfl rfl rfl ?_ | refine zcA (eb) rfl rfl rfl ?_)
    refine ⟨(i + 1), ?hI12, ?hM12, Fgt.head (Nat.le_refl _) [true, true, false, false, false, true] ?hT12 ?hH12⟩
    case hT12 => first | (simp (disch := omega) only [hds, liveT, cleanAV, cleanCell, clean1, cleanBlk, reduceIte, Int.reduceSub, Int.reduceAdd, Int.reduceNeg]; done) | rfl
    case hH12 => first | (simp (disch := omega) only [hds, liveT, cleanAV, cleanCell, clean1, cleanBlk, reduceIte, Int.reduceSub, Int.reduceAdd, Int.reduceNeg]; done) | rfl
    · exact ⟨hlt, by rw [allK_succ, hs, hok]; rfl⟩
    · show (osl l).length - (i + 1) < (osl l).length - i; omega
  · rw [allK_false hlt hok]
    repeat (first | (with_reducible first | refine Way.imp ?_ | refine blk_o rfl ?_) | ((with_reducible refine WayR.imp (fun K hK => ?_)); simp (disch := first | omega | (simp only [dls]; omega)) only [std, reduceIte, reduceCtorEq, Int.reduceToNat, Nat.reduceAdd, Nat.reduceSub, Nat.reduceMul, Int.reduceAdd, Int.reduceSub, Int.reduceMul, Int.reduceNeg, fU, fRl, htg]; subst hK) | refine zcA (ea) rfl rfl rfl ?_ | refine zcA (eb) rfl rfl rfl ?_)
    exact ⟨_, rfl, rfl⟩
  · repeat (first | (with_reducible first | refine Way.imp ?_ | refine blk_o rfl ?_) | ((with_reducible refine WayR.imp (fun K hK => ?_)); simp (disch := first | omega | (simp only [dls]; omega)) only [std, reduceIte, reduceCtorEq, Int.reduceToNat, Nat.reduceAdd, Nat.reduceSub, Nat.reduceMul, Int.reduceAdd, Int.reduceSub, Int.reduceMul, Int.reduceNeg, fU, fRl, htg]; subst hK) | refine zcA (ea) rfl rfl rfl ?_ | refine zcA (eb) rfl rfl rfl ?_)
    refine ⟨(i + 1), ?hI13, ?hM13, Fgt.head (Nat.le_refl _) [true, true, false, false, false, true] ?hT13 ?hH13⟩
    case hT13 => first | (simp (disch := omega) only [hds, liveT, cleanAV, cleanCell, clean1, cleanBlk, reduceIte, Int.reduceSub, Int.reduceAdd, Int.reduceNeg]; done) | rfl
    case hH13 => first | (simp (disch := omega) only [hds, liveT, cleanAV, cleanCell, clean1, cleanBlk, reduceIte, Int.reduceSub, Int.reduceAdd, Int.reduceNeg]; done) | rfl
    · exact ⟨hlt, by rw [allK_succ, hs, hok]; rfl⟩
    · show (osl l).length - (i + 1) < (osl l).length - i; omega
  · rw [allK_false hlt hok]
    repeat (first | (with_reducible first | refine Way.imp ?_ | refine blk_o rfl ?_) | ((with_reducible refine WayR.imp (fun K hK => ?_)); simp (disch := first | omega | (simp only [dls]; omega)) only [std, reduceIte, reduceCtorEq, Int.reduceToNat, Nat.reduceAdd, Nat.reduceSub, Nat.reduceMul, Int.reduceAdd, Int.reduceSub, Int.reduceMul, Int.reduceNeg, fU, fRl, htg]; subst hK) | refine zcA (ea) rfl rfl rfl ?_ | refine zcA (eb) rfl rfl rfl ?_)
    exact ⟨_, rfl, rfl⟩
  · rw [allK_false hlt hok]
    repeat (first | (with_reducible first | refine Way.imp ?_ | refine blk_o rfl ?_) | ((with_reducible refine WayR.imp (fun K hK => ?_)); simp (disch := first | omega | (simp only [dls]; omega)) only [std, reduceIte, reduceCtorEq, Int.reduceToNat, Nat.reduceAdd, Nat.reduceSub, Nat.reduceMul, Int.reduceAdd, Int.reduceSub, Int.reduceMul, Int.reduceNeg, fU, fRl, htg]; subst hK) | refine zcA (ea) rfl rfl rfl ?_ | refine zcA (eb) rfl rfl rfl ?_)
    exact ⟨_, rfl, rfl⟩
  · repeat (first | (with_reducible first | refine Way.imp ?_ | refine blk_o rfl ?_) | ((with_reducible refine WayR.imp (fun K hK => ?_)); simp (disch := first | omega | (simp only [dls]; omega)) only [std, reduceIte, reduceCtorEq, Int.reduceToNat, Nat.reduceAdd, Nat.reduceSub, Nat.reduceMul, Int.reduceAdd, Int.reduceSub, Int.reduceMul, Int.reduceNeg, fU, fRl, htg]; subst hK) | refine zcA (ea) rfl rfl rfl ?_ | refine zcA (eb) rfl rfl rfl ?_)
    refine ⟨(i + 1), ?hI14, ?hM14, Fgt.head (Nat.le_refl _) [true, true, false, false, false, true] ?hT14 ?hH14⟩
    case hT14 => first | (simp (disch := omega) only [hds, liveT, cleanAV, cleanCell, clean1, cleanBlk, reduceIte, Int.reduceSub, Int.reduceAdd, Int.reduceNeg]; done) | rfl
    case hH14 => first | (simp (disch := omega) only [hds, liveT, cleanAV, cleanCell, clean1, cleanBlk, reduceIte, Int.reduceSub, Int.reduceAdd, Int.reduceNeg]; done) | rfl
    · exact ⟨hlt, by rw [allK_succ, hs, hok]; rfl⟩
    · show (osl l).length - (i + 1) < (osl l).length - i; omega

end Go.Proofs.YtdhkdnmefeeclaaDoor
