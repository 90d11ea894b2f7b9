/- The law PairsSplit: the walk. -/
import Derived.Test.YtdhkdnmefeeclaaDoorZD
set_option linter.unusedSimpArgs false
set_option linter.unusedVariables false
set_option linter.unnecessarySimpa false
set_option linter.unusedSimpArgs false
set_option linter.unusedVariables false
set_option maxRecDepth 100000
set_option maxHeartbeats 4000000
namespace Go.Proofs.YtdhkdnmefeeclaaDoor
open Go Go.Am Go.Proofs Go.RowKit Go.Off

abbrev c3_k1 : CC := (.seq (.reg [⟨(some 69), none, (.mv (.tmp 5))⟩, ⟨(some 70), none, (.bin .eql (.tmp 69) (.const (.int .i64 (0))))⟩, ⟨(some 71), none, (.mv (.tmp 70))⟩, ⟨(some 72), (some (71, true)), (.mv (.tmp 6))⟩, ⟨(some 73), (some (71, true)), (.bin .eql (.tmp 72) (.const (.int .i64 (0))))⟩, ⟨(some 74), none, (.pick (.tmp 71) (.tmp 73) (.const (.bool false)))⟩, ⟨(some 75), none, (.mv (.tmp 74))⟩, ⟨(some 76), (some (75, true)), (.mv (.tmp 7))⟩, ⟨(some 77), (some (75, true)), (.un .not (.tmp 76))⟩, ⟨(some 78), none, (.pick (.tmp 75) (.tmp 77) (.const (.bool false)))⟩, ⟨(some 79), none, (.mv (.tmp 78))⟩, ⟨(some 80), (some (79, true)), (.callf (.func 15) [])⟩, ⟨(some 81), none, (.pick (.tmp 79) (.tmp 80) (.const (.bool false)))⟩, ⟨(some 4), none, (.mv (.tmp 81))⟩]) .ret)
abbrev c3_k2 : CC := (.reg [⟨(some 33), none, (.mv (.tmp 11))⟩, ⟨(some 34), none, (.bin .add (.tmp 33) (.const (.int .i64 (1))))⟩, ⟨(some 11), none, (.mv (.tmp 34))⟩])
abbrev c3_b1 : CC := (.seq (.seq (.reg [⟨(some 37), none, (.mv (.tmp 12))⟩, ⟨(some 38), none, (.mv (.tmp 1))⟩, ⟨(some 39), none, (.mm false (.tmp 38) (.const (.int .i64 (12))))⟩, ⟨(some 40), none, (.bin .lss (.tmp 37) (.tmp 39))⟩]) (.cond (.tmp 40) .skip (.exit 2))) (.seq (.block 3 (.seq (.reg [⟨(some 43), none, (.mv (.tmp 10))⟩, ⟨(some 44), none, (.mv (.tmp 11))⟩, ⟨(some 45), none, (.mv (.tmp 12))⟩, ⟨(some 46), none, (.callf (.func 18) [(.tmp 43), (.tmp 44), (.tmp 45)])⟩, ⟨(some 13), none, (.new 28 [(.string ⟨#[]⟩), (.string ⟨#[]⟩)])⟩, ⟨none, none, (.store 2 (.tmp 13) (.tmp 46))⟩]) (.seq (.reg [⟨(some 47), none, (.load 2 true (.tmp 8))⟩, ⟨(some 48), none, (.load 2 true (.tmp 13))⟩, ⟨(some 49), none, (.callf (.func 19) [(.tmp 47), (.tmp 48)])⟩, ⟨(some 50), none, (.mv (.tmp 49))⟩, ⟨(some 51), (some (50, true)), (.load 2 true (.tmp 13))⟩, ⟨(some 52), (some (50, true)), (.load 2 true (.tmp 9))⟩, ⟨(some 53), (some (50, true)), (.callf (.func 19) [(.tmp 51), (.tmp 52)])⟩, ⟨(some 54), none, (.pick (.tmp 50) (.tmp 53) (.const (.bool false)))⟩]) (.cond (.tmp 54) (.seq (.reg [⟨(some 55), none, (.mv (.tmp 5))⟩, ⟨(some 56), none, (.mv (.tmp 11))⟩, ⟨(some 57), none, (.bin .eql (.tmp 55) (.tmp 56))⟩, ⟨(some 58), none, (.mv (.tmp 57))⟩, ⟨(some 59), (some (58, true)), (.mv (.tmp 6))⟩, ⟨(some 60), (some (58, true)), (.mv (.tmp 12))⟩, ⟨(some 61), (some (58, true)), (.bin .eql (.tmp 59) (.tmp 60))⟩, ⟨(some 62), none, (.pick (.tmp 58) (.tmp 61) (.const (.bool false)))⟩, ⟨(some 63), none, (.mv (.tmp 62))⟩, ⟨(some 64), (some (63, true)), (.mv (.tmp 7))⟩, ⟨(some 65), none, (.pick (.tmp 63) (.tmp 64) (.const (.bool false)))⟩, ⟨(some 66), none, (.mv (.tmp 65))⟩, ⟨(some 67), (some (66, true)), (.callf (.func 15) [])⟩, ⟨(some 68), none, (.pick (.tmp 66) (.tmp 67) (.const (.bool false)))⟩, ⟨(some 4), none, (.mv (.tmp 68))⟩]) .ret) .skip)))) (.reg [⟨(some 41), none, (.mv (.tmp 12))⟩, ⟨(some 42), none, (.bin .add (.tmp 41) (.const (.int .i64 (1))))⟩, ⟨(some 12), none, (.mv (.tmp 42))⟩])))
abbrev c3_b2 : CC := (.seq (.seq (.reg [⟨(some 29), none, (.mv (.tmp 11))⟩, ⟨(some 30), none, (.mv (.tmp 1))⟩, ⟨(some 31), none, (.mm false (.tmp 30) (.const (.int .i64 (12))))⟩, ⟨(some 32), none, (.bin .lss (.tmp 29) (.tmp 31))⟩]) (.cond (.tmp 32) .skip (.exit 0))) (.seq (.block 1 (.seq (.reg [⟨(some 35), none, (.mv (.tmp 11))⟩, ⟨(some 36), none, (.bin .add (.tmp 35) (.const (.int .i64 (1))))⟩, ⟨(some 12), none, (.mv (.tmp 36))⟩]) (.block 2 (.loop c3_b1)))) c3_k2))
abbrev c3 : CC := (.seq (.reg [⟨(some 4), none, (.mv (.const (.bool false)))⟩]) (.seq (.seq (.reg [⟨(some 14), none, (.mv (.tmp 0))⟩, ⟨(some 15), none, (.callf (.func 14) [(.tmp 14)])⟩, ⟨(some 16), none, (.un .not (.tmp 15))⟩]) (.cond (.tmp 16) (.seq (.reg [⟨(some 17), none, (.callf (.func 15) [])⟩, ⟨(some 4), none, (.mv (.tmp 17))⟩]) .ret) .skip)) (.seq (.reg [⟨(some 19), none, (.mv (.tmp 0))⟩, ⟨(some 20), none, (.mv (.tmp 1))⟩, ⟨(some 21), none, (.callf (.func 16) [(.tmp 19), (.tmp 20)])⟩, ⟨(some 18), none, (.mv (.tmp 21))⟩, ⟨(some 22), none, (.ext (.tmp 18) 0)⟩, ⟨(some 23), none, (.ext (.tmp 18) 1)⟩, ⟨(some 24), none, (.ext (.tmp 18) 2)⟩, ⟨(some 5), none, (.mv (.tmp 22))⟩, ⟨(some 6), none, (.mv (.tmp 23))⟩, ⟨(some 7), none, (.mv (.tmp 24))⟩]) (.seq (.reg [⟨(some 25), none, (.build [(.string ⟨#[]⟩), (.string ⟨#[]⟩)] [(0, (1, (.const (.string ⟨#[48]⟩)))), (1, (1, (.const (.string ⟨#[49]⟩))))])⟩, ⟨(some 26), none, (.build [(.string ⟨#[]⟩), (.string ⟨#[]⟩)] [(0, (1, (.const (.string ⟨#[49]⟩)))), (1, (1, (.const (.string ⟨#[49]⟩))))])⟩, ⟨(some 8), none, (.new 28 [(.string ⟨#[]⟩), (.string ⟨#[]⟩)])⟩, ⟨(some 9), none, (.new 28 [(.string ⟨#[]⟩), (.string ⟨#[]⟩)])⟩, ⟨none, none, (.store 2 (.tmp 8) (.tmp 25))⟩, ⟨none, none, (.store 2 (.tmp 9) (.tmp 26))⟩]) (.seq (.reg [⟨(some 27), none, (.mv (.tmp 0))⟩, ⟨(some 28), none, (.callf (.func 17) [(.tmp 27)])⟩, ⟨(some 10), none, (.mv (.tmp 28))⟩]) (.seq (.seq (.reg [⟨(some 11), none, (.mv (.const (.int .i64 (0))))⟩]) (.block 0 (.loop c3_b2))) c3_k1))))))
theorem cc3 : ccode Tryd.prog [] (Tryd.f3.body.getD .skip) = some c3 := by kernel_rfl
theorem body3 : Tryd.f3.body = some (Tryd.f3.body.getD .skip) := rfl

theorem pairsSplit_C (l : PL) (n : Int) (hn : -9223372036854775808 ≤ n ∧ n ≤ 9223372036854775807) (h64 : ∀ p ∈ osl l, p.set ≤ 9223372036854775807) : PureC Tryd.prog 3 [aPl l, aI n] (.ret (aB true)) := by
  have haw := awake19_C
  have hfw := few19_C l
  cases c2 : fewPt l with
  | false =>
    rw [c2] at hfw
    refine pureC_of (rs := [(RV.tmp 4)]) Tryd.func3 (fun a w => Tryd.call3 a w) body3 cc3 (by kernel_rfl) ?_
    rw [Tryd.ntmps3]
    simp only [frs, Nat.reduceAdd, Nat.reduceSub]
    repeat (first | (with_reducible first | refine Way.imp ?_ | refine blk_o rfl ?_) | ((with_reducible refine WayR.imp (fun K hK => ?_)); simp (disch := first | omega | (simp only [dls]; omega)) only [std, reduceIte, reduceCtorEq, Int.reduceToNat, Nat.reduceAdd, Nat.reduceSub, Nat.reduceMul, Int.reduceAdd, Int.reduceSub, Int.reduceMul, Int.reduceNeg, fU]; subst hK) | refine zcA (hfw) rfl rfl rfl ?_ | refine zcA (haw) rfl rfl rfl ?_)
    exact ⟨_, rfl, rfl⟩
  | true =>
  rw [c2] at hfw
  have hd := fewPt_dom c2 h64
  have hof := of19_C l 12 3 hd (by decide) (by decide) (by decide)
  have hx := isPd_of l
  have hs := psplit_C l n hn 12 3 hd (by decide) (by decide) (by decide)
  have d0 : decZ (0 : Rat).num = [48] := by decide +kernel
  have d1 : dec (0 : Rat).den = [49] := by decide +kernel
  have d2 : decZ (1 : Rat).num = [49] := by decide +kernel
  have d3 : dec (1 : Rat).den = [49] := by decide +kernel
  have hl0 := fun q (hq : FitsQ q 1100000) => qless_C 0 q (fitsQ_zero _ (by decide)) (hq.mono (by decide))
  have hl1 := fun q (hq : FitsQ q 1100000) => qless_C q 1 (hq.mono (by decide)) ((fits_int 1 (by decide) (by decide)).mono (by decide))
  have hl0' : ∀ q, FitsQ q 1100000 → PureC Tryd.prog 19 [.agg [.c (.str [48]), .c (.str [49])], aQ q] (.ret (aB (decide (0 < q)))) := fun q hq => by
    have := hl0 q hq
    change PureC _ _ [.agg [.c (.str (decZ (0 : Rat).num)), .c (.str (dec (0 : Rat).den))], _] _ at this
    rwa [d0, d1] at this
  have hl1' : ∀ q, FitsQ q 1100000 → PureC Tryd.prog 19 [aQ q, .agg [.c (.str [49]), .c (.str [49])]] (.ret (aB (decide (q < 1)))) := fun q hq => by
    have := hl1 q hq
    change PureC _ _ [_, .agg [.c (.str (decZ (1 : Rat).num)), .c (.str (dec (1 : Rat).den))]] _ at this
    rwa [d2, d3] at this
  clear hl0 hl1
  have htog := fun a b => rtog_C l _ a b 12 3 hx hd (by decide) (by decide) (by decide)
  generalize rowO (ofP l (osl l).length) = x at *
  generalize hM : min n.toNat 12 = m at *
  have hmm : ∀ k : Nat, ((k : Int) < (if (12 : Int) < n then (12 : Int) else n)) ↔ k < m := fun k => by split <;> omega
  have hm12 : m ≤ 12 := by omega
  generalize hV : splitV l m = V at *
  obtain ⟨va, vb, vc⟩ := V
  dsimp only at hs
  refine pureC_of (rs := [(RV.tmp 4)]) Tryd.func3 (fun a w => Tryd.call3 a w) body3 cc3 (by kernel_rfl) ?_
  rw [Tryd.ntmps3]
  simp only [frs, Nat.reduceAdd, Nat.reduceSub]
  repeat (first | (with_reducible first | refine Way.imp ?_ | refine blk_o rfl ?_) | ((with_reducible refine WayR.imp (fun K hK => ?_)); simp (disch := first | omega | (simp only [dls]; omega)) only [std, reduceIte, reduceCtorEq, Int.reduceToNat, Nat.reduceAdd, Nat.reduceSub, Nat.reduceMul, Int.reduceAdd, Int.reduceSub, Int.reduceMul, Int.reduceNeg, fU]; subst hK) | refine zcA (hfw) rfl rfl rfl ?_ | refine zcA (haw) rfl rfl rfl ?_ | refine zcA (hs) rfl rfl rfl ?_ | refine zcA (hof) rfl rfl rfl ?_)
  refine awp_loop (fun (zz : Nat) => ⟨(aPl l :: aI n :: .junk :: .junk :: .junk :: aI va :: aI vb :: aB vc :: .one (.ptr 0 0 0 0) :: .one (.ptr 1 0 0 0) :: aPd x :: aI zz :: .junk :: .junk :: .junk :: .junk :: .junk :: .junk :: .junk :: .junk :: .junk :: .junk :: .junk :: .junk :: .junk :: .junk :: .junk :: .junk :: .junk :: .junk :: .junk :: .junk :: .junk :: .junk :: .junk :: .junk :: .junk :: .junk :: .junk :: .junk :: .junk :: .junk :: .junk :: .junk :: .junk :: .junk :: .junk :: .junk :: .junk :: .junk :: .junk :: .junk :: .junk :: .junk :: .junk :: .junk :: .junk :: .junk :: .junk :: .junk :: .junk :: .junk :: .junk :: .junk :: .junk :: .junk :: .junk :: .junk :: .junk :: .junk :: .junk :: .junk :: .junk :: .junk :: .junk :: .junk :: .junk :: .junk :: .junk :: .junk :: .junk :: .junk :: []), [⟨0, 28, 2, [[.c (.str [48]), .c (.str [49])]], true, true⟩, ⟨0, 28, 2, [[.c (.str [49]), .c (.str [49])]], true, true⟩]⟩) (fun (zz : Nat) => zz ≤ m ∧ anyI (rowHas l m) zz = false) (fun (zz : Nat) => m - zz) (0) ?hI1 (Fgt.head (Nat.zero_le 2) [true, true, false, false, false, true, true, true, true, true, true, true] ?hT1 ?hH1) ?hB1
  case hT1 => first | (simp (disch := omega) only [hds, liveT, cleanAV, cleanCell, clean1, cleanBlk, reduceIte, Int.reduceSub, Int.reduceAdd, Int.reduceNeg]; done) | rfl
  case hH1 => first | (simp (disch := omega) only [hds, liveT, cleanAV, cleanCell, clean1, cleanBlk, reduceIte, Int.reduceSub, Int.reduceAdd, Int.reduceNeg]; done) | rfl
  · exact ⟨Nat.zero_le _, rfl⟩
  rintro a ⟨ha, hany⟩
  have hma := hmm a
  by_cases hae : a = m
  · subst hae
    have hv := hV.symm.trans (splitV_none hany)
    obtain ⟨rfl, hv2⟩ := Prod.mk.inj hv
    obtain ⟨rfl, rfl⟩ := Prod.mk.inj hv2
    have hnot : ¬ ((a : Int) < (if (12 : Int) < n then (12 : Int) else n)) := fun h => absurd (hma.1 h) (by omega)
    repeat (first | (with_reducible first | refine Way.imp ?_ | refine blk_o rfl ?_) | ((with_reducible refine WayR.imp (fun K hK => ?_)); simp (disch := first | omega | (simp only [dls]; omega)) only [std, reduceIte, reduceCtorEq, Int.reduceToNat, Nat.reduceAdd, Nat.reduceSub, Nat.reduceMul, Int.reduceAdd, Int.reduceSub, Int.reduceMul, Int.reduceNeg, fU, hnot]; subst hK) | refine zcA (haw) rfl rfl rfl ?_ | (apply call_any_g (haw) rfl; (case hg => simp (disch := first | omega | (simp only [dls]; omega)) only [std, reduceIte, reduceCtorEq, Int.reduceToNat, Nat.reduceAdd, Nat.reduceSub, Nat.reduceMul, Int.reduceAdd, Int.reduceSub, Int.reduceMul, Int.reduceNeg, fU, hnot]); (case hcl => (simp only [evs, St.ev, constAV, evl]; (repeat (first | exact closeAVs_nil | (apply closeAVs_cons; (first | (refine close_own3 rfl (by decide)) | (refine close_ownO rfl (by decide) ?_; assumption) | rfl)))); done)); (case hu => rfl)))
    exact ⟨_, rfl, rfl⟩
  · have halt : a < m := by omega
    have hyes := hma.2 halt
    have hstep := anyI_succ (rowHas l m) a
    rw [hany, Bool.false_or] at hstep
    repeat (first | (with_reducible first | refine Way.imp ?_ | refine blk_o rfl ?_) | ((with_reducible refine WayR.imp (fun K hK => ?_)); simp (disch := first | omega | (simp only [dls]; omega)) only [std, reduceIte, reduceCtorEq, Int.reduceToNat, Nat.reduceAdd, Nat.reduceSub, Nat.reduceMul, Int.reduceAdd, Int.reduceSub, Int.reduceMul, Int.reduceNeg, fU, hyes]; subst hK))
    refine awp_loop (fun (zz : Nat) => ⟨(aPl l :: aI n :: .junk :: .junk :: .junk :: aI va :: aI vb :: aB vc :: .one (.ptr 0 0 0 0) :: .one (.ptr 1 0 0 0) :: aPd x :: aI a :: aI zz :: .junk :: .junk :: .junk :: .junk :: .junk :: .junk :: .junk :: .junk :: .junk :: .junk :: .junk :: .junk :: .junk :: .junk :: .junk :: .junk :: .junk :: .junk :: .junk :: .junk :: .junk :: .junk :: .junk :: .junk :: .junk :: .junk :: .junk :: .junk :: .junk :: .junk :: .junk :: .junk :: .junk :: .junk :: .junk :: .junk :: .junk :: .junk :: .junk :: .junk :: .junk :: .junk :: .junk :: .junk :: .junk :: .junk :: .junk :: .junk :: .junk :: .junk :: .junk :: .junk :: .junk :: .junk :: .junk :: .junk :: .junk :: .junk :: .junk :: .junk :: .junk :: .junk :: .junk :: .junk :: .junk :: .junk :: .junk :: .junk :: .junk :: []), [⟨0, 28, 2, [[.c (.str [48]), .c (.str [49])]], true, true⟩, ⟨0, 28, 2, [[.c (.str [49]), .c (.str [49])]], true, true⟩]⟩) (fun (zz : Nat) => a + 1 ≤ zz ∧ zz ≤ m ∧ anyI (rowP l a) zz = false) (fun (zz : Nat) => m - zz) (a + 1) ?hI2 (Fgt.head (Nat.zero_le 2) [true, true, false, false, false, true, true, true, true, true, true, true, true] ?hT2 ?hH2) ?hB2
    case hT2 => first | (simp (disch := omega) only [hds, liveT, cleanAV, cleanCell, clean1, cleanBlk, reduceIte, Int.reduceSub, Int.reduceAdd, Int.reduceNeg]; done) | rfl
    case hH2 => first | (simp (disch := omega) only [hds, liveT, cleanAV, cleanCell, clean1, cleanBlk, reduceIte, Int.reduceSub, Int.reduceAdd, Int.reduceNeg]; done) | rfl
    · refine ⟨Nat.le_refl _, by omega, anyI_of (fun i hi => ?_)⟩
      unfold rowP
      rw [decide_eq_false (by omega)]; rfl
    rintro b ⟨hb0, hb, hanyb⟩
    have hmb := hmm b
    by_cases hbe : b = m
    · subst hbe
      have hnot : ¬ ((b : Int) < (if (12 : Int) < n then (12 : Int) else n)) := fun h => absurd (hmb.1 h) (by omega)
      repeat (first | (with_reducible first | refine Way.imp ?_ | refine blk_o rfl ?_) | ((with_reducible refine WayR.imp (fun K hK => ?_)); simp (disch := first | omega | (simp only [dls]; omega)) only [std, reduceIte, reduceCtorEq, Int.reduceToNat, Nat.reduceAdd, Nat.reduceSub, Nat.reduceMul, Int.reduceAdd, Int.reduceSub, Int.reduceMul, Int.reduceNeg, fU, hnot]; subst hK))
      refine ⟨(a + 1), ?hI3, ?hM3, Fgt.head (Nat.zero_le 2) [true, true, false, false, false, true, true, true, true, true, true, true] ?hT3 ?hH3⟩
      case hT3 => first | (simp (disch := omega) only [hds, liveT, cleanAV, cleanCell, clean1, cleanBlk, reduceIte, Int.reduceSub, Int.reduceAdd, Int.reduceNeg]; done) | rfl
      case hH3 => first | (simp (disch := omega) only [hds, liveT, cleanAV, cleanCell, clean1, cleanBlk, reduceIte, Int.reduceSub, Int.reduceAdd, Int.reduceNeg]; done) | rfl
      · exact ⟨halt, by rw [hstep]; exact hanyb⟩
      · show b - (a + 1) < b - a; omega
    · have hblt : b < m := by omega
      have hyesb := hmb.2 hblt
      have ht := htog a b
      have hft := fits_togQ hd (by decide) (by decide) (by decide) a b
      rw [togQ_in l (by omega) (by omega)] at ht hft
      have hsb : rowP l a b = (decide (0 < togTo l a b (osl l).length) && decide (togTo l a b (osl l).length < 1)) := by unfold rowP splB; rw [decide_eq_true (by omega), Bool.true_and]
      have hstepb := anyI_succ (rowP l a) b
      rw [hanyb, Bool.false_or] at hstepb
      generalize togTo l a b (osl l).length = q at *
      have g0 := hl0' q hft
      have g1 := hl1' q hft
      by_cases c0 : 0 < q
      · rw [decide_eq_true c0] at g0
        by_cases c1 : q < 1
        · rw [decide_eq_true c1] at g1
          have hyes3 : rowP l a b = true := by rw [hsb, decide_eq_true c0, decide_eq_true c1]; rfl
          have hv := hV.symm.trans (splitV_some halt hblt hany hanyb hyes3)
          obtain ⟨rfl, hv2⟩ := Prod.mk.inj hv
          obtain ⟨rfl, rfl⟩ := Prod.mk.inj hv2
          repeat (first | (with_reducible first | refine Way.imp ?_ | refine blk_o rfl ?_) | ((with_reducible refine WayR.imp (fun K hK => ?_)); simp (disch := first | omega | (simp only [dls]; omega)) only [std, reduceIte, reduceCtorEq, Int.reduceToNat, Nat.reduceAdd, Nat.reduceSub, Nat.reduceMul, Int.reduceAdd, Int.reduceSub, Int.reduceMul, Int.reduceNeg, fU, hyesb]; subst hK) | refine zcA (ht) rfl rfl rfl ?_ | refine zcA (g0) rfl rfl rfl ?_ | (apply call_any_g (g1) rfl; (case hg => simp (disch := first | omega | (simp only [dls]; omega)) only [std, reduceIte, reduceCtorEq, Int.reduceToNat, Nat.reduceAdd, Nat.reduceSub, Nat.reduceMul, Int.reduceAdd, Int.reduceSub, Int.reduceMul, Int.reduceNeg, fU, hyesb]); (case hcl => (simp only [evs, St.ev, constAV, evl]; (repeat (first | exact closeAVs_nil | (apply closeAVs_cons; (first | (refine close_own3 rfl (by decide)) | (refine close_ownO rfl (by decide) ?_; assumption) | rfl)))); done)); (case hu => rfl)) | refine zcA (haw) rfl rfl rfl ?_ | (apply call_any_g (haw) rfl; (case hg => simp (disch := first | omega | (simp only [dls]; omega)) only [std, reduceIte, reduceCtorEq, Int.reduceToNat, Nat.reduceAdd, Nat.reduceSub, Nat.reduceMul, Int.reduceAdd, Int.reduceSub, Int.reduceMul, Int.reduceNeg, fU, hyesb]); (case hcl => (simp only [evs, St.ev, constAV, evl]; (repeat (first | exact closeAVs_nil | (apply closeAVs_cons; (first | (refine close_own3 rfl (by decide)) | (refine close_ownO rfl (by decide) ?_; assumption) | rfl)))); done)); (case hu => rfl)))
          exact ⟨_, rfl, rfl⟩
        · rw [decide_eq_false c1] at g1
          have hno : rowP l a b = false := by rw [hsb, decide_eq_false c1, Bool.and_false]
          repeat (first | (with_reducible first | refine Way.imp ?_ | refine blk_o rfl ?_) | ((with_reducible refine WayR.imp (fun K hK => ?_)); simp (disch := first | omega | (simp only [dls]; omega)) only [std, reduceIte, reduceCtorEq, Int.reduceToNat, Nat.reduceAdd, Nat.reduceSub, Nat.reduceMul, Int.reduceAdd, Int.reduceSub, Int.reduceMul, Int.reduceNeg, fU, hyesb]; subst hK) | refine zcA (ht) rfl rfl rfl ?_ | refine zcA (g0) rfl rfl rfl ?_ | (apply call_any_g (g1) rfl; (case hg => simp (disch := first | omega | (simp only [dls]; omega)) only [std, reduceIte, reduceCtorEq, Int.reduceToNat, Nat.reduceAdd, Nat.reduceSub, Nat.reduceMul, Int.reduceAdd, Int.reduceSub, Int.reduceMul, Int.reduceNeg, fU, hyesb]); (case hcl => (simp only [evs, St.ev, constAV, evl]; (repeat (first | exact closeAVs_nil | (apply closeAVs_cons; (first | (refine close_own3 rfl (by decide)) | (refine close_ownO rfl (by decide) ?_; assumption) | rfl)))); done)); (case hu => rfl)))
          refine ⟨(b + 1), ?hI4, ?hM4, Fgt.head (Nat.zero_le 2) [true, true, false, false, false, true, true, true, true, true, true, true, true] ?hT4 ?hH4⟩
          case hT4 => first | (simp (disch := omega) only [hds, liveT, cleanAV, cleanCell, clean1, cleanBlk, reduceIte, Int.reduceSub, Int.reduceAdd, Int.reduceNeg]; done) | rfl
          case hH4 => first | (simp (disch := omega) only [hds, liveT, cleanAV, cleanCell, clean1, cleanBlk, reduceIte, Int.reduceSub, Int.reduceAdd, Int.reduceNeg]; done) | rfl
          · exact ⟨by omega, hblt, by rw [hstepb, hno]⟩
          · show m - (b + 1) < m - b; omega
      · rw [decide_eq_false c0] at g0
        have hno : rowP l a b = false := by rw [hsb, decide_eq_false c0, Bool.false_and]
        repeat (first | (with_reducible first | refine Way.imp ?_ | refine blk_o rfl ?_) | ((with_reducible refine WayR.imp (fun K hK => ?_)); simp (disch := first | omega | (simp only [dls]; omega)) only [std, reduceIte, reduceCtorEq, Int.reduceToNat, Nat.reduceAdd, Nat.reduceSub, Nat.reduceMul, Int.reduceAdd, Int.reduceSub, Int.reduceMul, Int.reduceNeg, fU, hyesb]; subst hK) | refine zcA (ht) rfl rfl rfl ?_ | refine zcA (g0) rfl rfl rfl ?_ | (apply call_any_g (g1) rfl; (case hg => simp (disch := first | omega | (simp only [dls]; omega)) only [std, reduceIte, reduceCtorEq, Int.reduceToNat, Nat.reduceAdd, Nat.reduceSub, Nat.reduceMul, Int.reduceAdd, Int.reduceSub, Int.reduceMul, Int.reduceNeg, fU, hyesb]); (case hcl => (simp only [evs, St.ev, constAV, evl]; (repeat (first | exact closeAVs_nil | (apply closeAVs_cons; (first | (refine close_own3 rfl (by decide)) | (refine close_ownO rfl (by decide) ?_; assumption) | rfl)))); done)); (case hu => rfl)))
        refine ⟨(b + 1), ?hI5, ?hM5, Fgt.head (Nat.zero_le 2) [true, true, false, false, false, true, true, true, true, true, true, true, true] ?hT5 ?hH5⟩
        case hT5 => first | (simp (disch := omega) only [hds, liveT, cleanAV, cleanCell, clean1, cleanBlk, reduceIte, Int.reduceSub, Int.reduceAdd, Int.reduceNeg]; done) | rfl
        case hH5 => first | (simp (disch := omega) only [hds, liveT, cleanAV, cleanCell, clean1, cleanBlk, reduceIte, Int.reduceSub, Int.reduceAdd, Int.reduceNeg]; done) | rfl
        · exact ⟨by omega, hblt, by rw [hstepb, hno]⟩
        · show m - (b + 1) < m - b; omega

end Go.Proofs.YtdhkdnmefeeclaaDoor
