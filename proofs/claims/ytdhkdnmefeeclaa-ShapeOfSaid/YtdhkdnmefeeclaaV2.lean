/- Walks of vec: Same, Zero. -/
import Derived.Test.YtdhkdnmefeeclaaRows
import Derived.Test.YtdhkdnmefeeclaaA5
import Derived.Test.YtdhkdnmefeeclaaV1
set_option linter.unusedSimpArgs false
set_option linter.unusedVariables false
set_option linter.unnecessarySimpa false
set_option linter.unusedSimpArgs false
set_option linter.unusedVariables false
set_option maxRecDepth 100000
set_option maxHeartbeats 4000000
namespace Go.Proofs.Ytdhkdnmefeeclaa
open Go Go.Am Go.Proofs Go.RowKit Go.Off

theorem cmpQ_zero (a b : Rat) : (cmpQ a b == 0) = decide (a = b) := by
  unfold cmpQ
  by_cases h1 : a < b
  · have : a ≠ b := fun e => Rat.lt_irrefl (e ▸ h1)
    rw [if_pos h1]; simp [this]
  · by_cases h2 : b < a
    · have : a ≠ b := fun e => Rat.lt_irrefl (e ▸ h2)
      rw [if_neg h1, if_pos h2]; simp [this]
    · have : a = b := Rat.le_antisymm (Rat.not_lt.1 h2) (Rat.not_lt.1 h1)
      rw [if_neg h1, if_neg h2]; simp [this]

abbrev c110 : CC := (.seq (.reg [⟨(some 2), none, (.box 40 (.tmp 0))⟩, ⟨(some 3), none, (.box 40 (.tmp 1))⟩, ⟨(some 4), none, (.mv (.const (.bool false)))⟩]) (.seq (.reg [⟨(some 5), none, (.load 3 true (.tmp 2))⟩, ⟨(some 6), none, (.load 3 true (.tmp 3))⟩, ⟨(some 7), none, (.callf (.func 46) [(.tmp 5), (.tmp 6)])⟩, ⟨(some 8), none, (.bin .eql (.tmp 7) (.const (.int .i64 (0))))⟩, ⟨(some 4), none, (.mv (.tmp 8))⟩]) .ret))
theorem cc110 : ccode Try.prog [] (Try.f110.body.getD .skip) = some c110 := by kernel_rfl
theorem body110 : Try.f110.body = some (Try.f110.body.getD .skip) := rfl

theorem same1_C (a b : RR) (ha : Fits a 90000000) (hb : Fits b 90000000) : PureC Try.prog 110 [aR a, aR b] (.ret (aB (decide (a.val = b.val)))) := by
  have hc := rcompare_C a b ha hb
  rw [← cmpQ_zero]
  refine pureC_of (rs := [(RV.tmp 4)]) Try.func110 (fun a w => Try.call110 a w) body110 cc110 (by kernel_rfl) ?_
  rw [Try.ntmps110]
  simp only [frs, Nat.reduceAdd, Nat.reduceSub]
  repeat (first | (with_reducible first | refine Way.imp ?_ | refine blk_o rfl ?_) | ((with_reducible refine WayR.imp (fun K hK => ?_)); simp (disch := first | omega | (simp only [dls]; omega)) only [std, reduceIte, reduceCtorEq, Int.reduceToNat, Nat.reduceAdd, Nat.reduceSub, Nat.reduceMul, Int.reduceAdd, Int.reduceSub, Int.reduceMul, Int.reduceNeg, fU]; subst hK) | refine zcA (hc) rfl rfl rfl ?_)
  exact ⟨_, rfl, rfl⟩

abbrev c112 : CC := (.seq (.reg [⟨(some 1), none, (.box 40 (.tmp 0))⟩, ⟨(some 2), none, (.mv (.const (.bool false)))⟩]) (.seq (.reg [⟨(some 3), none, (.load 3 true (.tmp 1))⟩, ⟨(some 4), none, (.callf (.func 33) [(.tmp 3)])⟩, ⟨(some 5), none, (.bin .neq (.tmp 4) (.const (.int .i64 (0))))⟩, ⟨(some 2), none, (.mv (.tmp 5))⟩]) .ret))
theorem cc112 : ccode Try.prog [] (Try.f112.body.getD .skip) = some c112 := by kernel_rfl
theorem body112 : Try.f112.body = some (Try.f112.body.getD .skip) := rfl

theorem zero1_C (a : RR) (ha : Fits a 90000000) : PureC Try.prog 112 [aR a] (.ret (aB (!decide (a.val = 0)))) := by
  have hs := rsign_C a (ha.mono (by omega))
  have he := (sgn_zero_iff a.top).trans (top_zero a)
  have hb : (!decide (a.val = 0)) = (sgn a.top != 0) := by
    by_cases h : a.val = 0
    · rw [he.2 h]; simp [h]
    · have hne : sgn a.top ≠ 0 := fun e => h (he.1 e)
      simp [h, hne]
  rw [hb]
  refine pureC_of (rs := [(RV.tmp 2)]) Try.func112 (fun a w => Try.call112 a w) body112 cc112 (by kernel_rfl) ?_
  rw [Try.ntmps112]
  simp only [frs, Nat.reduceAdd, Nat.reduceSub]
  repeat (first | (with_reducible first | refine Way.imp ?_ | refine blk_o rfl ?_) | ((with_reducible refine WayR.imp (fun K hK => ?_)); simp (disch := first | omega | (simp only [dls]; omega)) only [std, reduceIte, reduceCtorEq, Int.reduceToNat, Nat.reduceAdd, Nat.reduceSub, Nat.reduceMul, Int.reduceAdd, Int.reduceSub, Int.reduceMul, Int.reduceNeg, fU]; subst hK) | refine zcA (hs) rfl rfl rfl ?_)
  exact ⟨_, rfl, rfl⟩

end Go.Proofs.Ytdhkdnmefeeclaa
set_option linter.unusedSimpArgs false
set_option linter.unusedVariables false
set_option maxRecDepth 100000
set_option maxHeartbeats 4000000
namespace Go.Proofs.Ytdhkdnmefeeclaa
open Go Go.Am Go.Proofs Go.RowKit Go.Off

abbrev aSame1 : AV := .one (.fn 110 [])
def sameTo (a b : VV) (k : Nat) : Bool := (List.range k).all fun i => decide (qAt a i = qAt b i)
def sameQ (a b : VV) : Bool := ((osl a).length == (osl b).length) && sameTo a b (osl a).length
theorem sameTo_succ (a b : VV) (k : Nat) : sameTo a b (k + 1) = (sameTo a b k && decide (qAt a k = qAt b k)) := by
  unfold sameTo; rw [List.range_succ, List.all_append]; simp
theorem sameTo_false {a b : VV} {k m : Nat} (hk : k < m) (h : qAt a k ≠ qAt b k) : sameTo a b m = false := by
  unfold sameTo
  rw [List.all_eq_false]
  exact ⟨k, List.mem_range.2 hk, by simpa using h⟩

abbrev c109_k1 : CC := (.seq (.reg [⟨(some 6), none, (.mv (.const (.bool true)))⟩]) .ret)
abbrev c109_b1 : CC := (.seq (.reg [⟨(some 18), none, (.bin .lss (.tmp 17) (.tmp 16))⟩]) (.seq (.cond (.tmp 18) .skip (.exit 0)) (.seq (.block 1 (.seq (.reg [⟨(some 19), none, (.mv (.tmp 17))⟩, ⟨(some 20), none, (.iaddr 3 none (.tmp 15) (.tmp 17))⟩, ⟨(some 21), none, (.load 3 true (.tmp 20))⟩, ⟨(some 8), none, (.new 40 [(.bool false), (.slice none 0 0), (.slice none 0 0)])⟩, ⟨(some 7), none, (.mv (.tmp 19))⟩, ⟨none, none, (.store 3 (.tmp 8) (.tmp 21))⟩]) (.seq (.reg [⟨(some 22), none, (.mv (.tmp 1))⟩, ⟨(some 23), none, (.mv (.tmp 7))⟩, ⟨(some 24), none, (.iaddr 3 none (.tmp 22) (.tmp 23))⟩, ⟨(some 25), none, (.load 3 true (.tmp 24))⟩, ⟨(some 9), none, (.new 40 [(.bool false), (.slice none 0 0), (.slice none 0 0)])⟩, ⟨none, none, (.store 3 (.tmp 9) (.tmp 25))⟩]) (.seq (.reg [⟨(some 26), none, (.mv (.tmp 2))⟩, ⟨(some 27), none, (.load 3 true (.tmp 8))⟩, ⟨(some 28), none, (.load 3 true (.tmp 9))⟩, ⟨(some 29), none, (.callf (.tmp 26) [(.tmp 27), (.tmp 28)])⟩, ⟨(some 30), none, (.un .not (.tmp 29))⟩]) (.cond (.tmp 30) (.seq (.reg [⟨(some 6), none, (.mv (.const (.bool false)))⟩]) .ret) .skip))))) (.reg [⟨(some 31), none, (.bin .add (.tmp 17) (.const (.int .i64 (1))))⟩, ⟨(some 17), none, (.mv (.tmp 31))⟩]))))
abbrev c109 : CC := (.seq (.reg [⟨(some 6), none, (.mv (.const (.bool false)))⟩]) (.seq (.seq (.reg [⟨(some 10), none, (.mv (.tmp 0))⟩, ⟨(some 11), none, (.len false (.tmp 10))⟩, ⟨(some 12), none, (.mv (.tmp 1))⟩, ⟨(some 13), none, (.len false (.tmp 12))⟩, ⟨(some 14), none, (.bin .neq (.tmp 11) (.tmp 13))⟩]) (.cond (.tmp 14) (.seq (.reg [⟨(some 6), none, (.mv (.const (.bool false)))⟩]) .ret) .skip)) (.seq (.seq (.reg [⟨(some 15), none, (.mv (.tmp 0))⟩, ⟨(some 16), none, (.len false (.tmp 15))⟩, ⟨(some 17), none, (.mv (.const (.int .i64 (0))))⟩]) (.block 0 (.loop c109_b1))) c109_k1)))
theorem cc109 : ccode Try.prog [] (Try.f109.body.getD .skip) = some c109 := by kernel_rfl
theorem body109 : Try.f109.body = some (Try.f109.body.getD .skip) := rfl

theorem equalf_C (a b : VV) (n L : Nat) (ha : FitsV a n L) (hb : FitsV b n L) (hn : n ≤ 1000000) (hL2 : L ≤ 1000000) :
    PureC Try.prog 109 [aV a, aV b, aSame1] (.ret (aB (sameQ a b))) := by
  have ha1 := ha.1
  have hb1 := hb.1
  refine pureC_of (rs := [(RV.tmp 6)]) Try.func109 (fun a w => Try.call109 a w) body109 cc109 (by kernel_rfl) ?_
  rw [Try.ntmps109]
  simp only [frs, Nat.reduceAdd, Nat.reduceSub]
  by_cases hl : (osl a).length = (osl b).length
  · have hq : sameQ a b = sameTo a b (osl a).length := by unfold sameQ; rw [hl]; simp
    rw [hq]
    repeat (first | (with_reducible first | refine Way.imp ?_ | refine blk_o rfl ?_) | ((with_reducible refine WayR.imp (fun K hK => ?_)); simp (disch := first | omega | (simp only [dls]; omega)) only [std, reduceIte, reduceCtorEq, Int.reduceToNat, Nat.reduceAdd, Nat.reduceSub, Nat.reduceMul, Int.reduceAdd, Int.reduceSub, Int.reduceMul, Int.reduceNeg, fU]; subst hK))
    refine awp_loop (fun (zz : Nat) => ⟨(aV a :: aV b :: aSame1 :: .junk :: .junk :: .junk :: aB false :: .junk :: .junk :: .junk :: .junk :: .junk :: .junk :: .junk :: .junk :: aV a :: aI (osl a).length :: aI zz :: .junk :: .junk :: .junk :: .junk :: .junk :: .junk :: .junk :: .junk :: .junk :: .junk :: .junk :: .junk :: .junk :: .junk :: []), []⟩) (fun (zz : Nat) => zz ≤ (osl a).length ∧ sameTo a b zz = true) (fun (zz : Nat) => (osl a).length - zz) (0) ?hI1 (Fgt.head (Nat.le_refl _) [true, true, true, false, false, false, true, false, false, false, false, false, false, false, false, true, true, true] ?hT1 ?hH1) ?hB1
    case hT1 => first | (simp (disch := omega) only [hds, liveT, cleanAV, cleanCell, clean1, cleanBlk, reduceIte, Int.reduceSub, Int.reduceAdd, Int.reduceNeg]; done) | rfl
    case hH1 => first | (simp (disch := omega) only [hds, liveT, cleanAV, cleanCell, clean1, cleanBlk, reduceIte, Int.reduceSub, Int.reduceAdd, Int.reduceNeg]; done) | rfl
    · exact ⟨Nat.zero_le _, rfl⟩
    rintro i ⟨hi, hs⟩
    by_cases him : i = (osl a).length
    · repeat (first | (with_reducible first | refine Way.imp ?_ | refine blk_o rfl ?_) | ((with_reducible refine WayR.imp (fun K hK => ?_)); simp (disch := first | omega | (simp only [dls]; omega)) only [std, reduceIte, reduceCtorEq, Int.reduceToNat, Nat.reduceAdd, Nat.reduceSub, Nat.reduceMul, Int.reduceAdd, Int.reduceSub, Int.reduceMul, Int.reduceNeg, fU]; subst hK))
      rw [← him, hs]
      exact ⟨_, rfl, rfl⟩
    · have hlt : i < (osl a).length := by omega
      have hltb : i < (osl b).length := by omega
      have hsm := same1_C (osl a)[i] (osl b)[i] ((ha.2 _ (List.getElem_mem hlt)).mono (by omega)) ((hb.2 _ (List.getElem_mem hltb)).mono (by omega))
      rw [← rAt_in hlt, ← rAt_in hltb] at hsm
      change PureC _ _ _ (.ret (aB (decide (qAt a i = qAt b i)))) at hsm
      rw [rAt_in hlt, rAt_in hltb] at hsm
      by_cases he : qAt a i = qAt b i
      · rw [decide_eq_true he] at hsm
        repeat (first | (with_reducible first | refine Way.imp ?_ | refine blk_o rfl ?_) | ((with_reducible refine WayR.imp (fun K hK => ?_)); simp (disch := first | omega | (simp only [dls]; omega)) only [std, reduceIte, reduceCtorEq, Int.reduceToNat, Nat.reduceAdd, Nat.reduceSub, Nat.reduceMul, Int.reduceAdd, Int.reduceSub, Int.reduceMul, Int.reduceNeg, fU, fR]; subst hK) | refine zcV (hsm) rfl rfl rfl ?_)
        refine ⟨(i + 1), ?hI2, ?hM2, Fgt.head (Nat.le_refl _) [true, true, true, false, false, false, true, false, false, false, false, false, false, false, false, true, true, true] ?hT2 ?hH2⟩
        case hT2 => first | (simp (disch := omega) only [hds, liveT, cleanAV, cleanCell, clean1, cleanBlk, reduceIte, Int.reduceSub, Int.reduceAdd, Int.reduceNeg]; done) | rfl
        case hH2 => first | (simp (disch := omega) only [hds, liveT, cleanAV, cleanCell, clean1, cleanBlk, reduceIte, Int.reduceSub, Int.reduceAdd, Int.reduceNeg]; done) | rfl
        · exact ⟨Nat.succ_le_of_lt hlt, by rw [sameTo_succ, hs, decide_eq_true he]; rfl⟩
        · show (osl a).length - (i + 1) < (osl a).length - i; omega
      · rw [decide_eq_false he] at hsm
        repeat (first | (with_reducible first | refine Way.imp ?_ | refine blk_o rfl ?_) | ((with_reducible refine WayR.imp (fun K hK => ?_)); simp (disch := first | omega | (simp only [dls]; omega)) only [std, reduceIte, reduceCtorEq, Int.reduceToNat, Nat.reduceAdd, Nat.reduceSub, Nat.reduceMul, Int.reduceAdd, Int.reduceSub, Int.reduceMul, Int.reduceNeg, fU, fR]; subst hK) | refine zcV (hsm) rfl rfl rfl ?_)
        rw [sameTo_false hlt he]
        exact ⟨_, rfl, rfl⟩
  · have hq : sameQ a b = false := by unfold sameQ; simp [hl]
    rw [hq]
    repeat (first | (with_reducible first | refine Way.imp ?_ | refine blk_o rfl ?_) | ((with_reducible refine WayR.imp (fun K hK => ?_)); simp (disch := first | omega | (simp only [dls]; omega)) only [std, reduceIte, reduceCtorEq, Int.reduceToNat, Nat.reduceAdd, Nat.reduceSub, Nat.reduceMul, Int.reduceAdd, Int.reduceSub, Int.reduceMul, Int.reduceNeg, fU]; subst hK))
    exact ⟨_, rfl, rfl⟩

end Go.Proofs.Ytdhkdnmefeeclaa
set_option linter.unusedSimpArgs false
set_option linter.unusedVariables false
set_option maxRecDepth 100000
set_option maxHeartbeats 4000000
namespace Go.Proofs.Ytdhkdnmefeeclaa
open Go Go.Am Go.Proofs Go.RowKit Go.Off

abbrev c51 : CC := (.seq (.reg [⟨(some 4), none, (.mv (.const (.bool false)))⟩]) (.seq (.reg [⟨(some 5), none, (.mv (.tmp 0))⟩, ⟨(some 6), none, (.mv (.tmp 1))⟩, ⟨(some 7), none, (.callf (.func 109) [(.tmp 5), (.tmp 6), (.func 110)])⟩, ⟨(some 4), none, (.mv (.tmp 7))⟩]) .ret))
theorem cc51 : ccode Try.prog [] (Try.f51.body.getD .skip) = some c51 := by kernel_rfl
theorem body51 : Try.f51.body = some (Try.f51.body.getD .skip) := rfl

theorem vsame_C (a b : VV) (n L : Nat) (ha : FitsV a n L) (hb : FitsV b n L) (hn : n ≤ 1000000) (hL2 : L ≤ 1000000) : PureC Try.prog 51 [aV a, aV b] (.ret (aB (sameQ a b))) := by
  have he := equalf_C a b n L ha hb hn hL2
  refine pureC_of (rs := [(RV.tmp 4)]) Try.func51 (fun a w => Try.call51 a w) body51 cc51 (by kernel_rfl) ?_
  rw [Try.ntmps51]
  simp only [frs, Nat.reduceAdd, Nat.reduceSub]
  repeat (first | (with_reducible first | refine Way.imp ?_ | refine blk_o rfl ?_) | ((with_reducible refine WayR.imp (fun K hK => ?_)); simp (disch := first | omega | (simp only [dls]; omega)) only [std, reduceIte, reduceCtorEq, Int.reduceToNat, Nat.reduceAdd, Nat.reduceSub, Nat.reduceMul, Int.reduceAdd, Int.reduceSub, Int.reduceMul, Int.reduceNeg, fU]; subst hK) | refine zcA (he) rfl rfl rfl ?_)
  exact ⟨_, rfl, rfl⟩

abbrev aZero1 : AV := .one (.fn 112 [])
def zeroTo (a : VV) (k : Nat) : Bool := (List.range k).all fun i => decide (qAt a i = 0)
def zeroQ (a : VV) : Bool := zeroTo a (osl a).length
theorem zeroTo_succ (a : VV) (k : Nat) : zeroTo a (k + 1) = (zeroTo a k && decide (qAt a k = 0)) := by
  unfold zeroTo; rw [List.range_succ, List.all_append]; simp
theorem zeroTo_false {a : VV} {k m : Nat} (hk : k < m) (h : qAt a k ≠ 0) : zeroTo a m = false := by
  unfold zeroTo
  rw [List.all_eq_false]
  exact ⟨k, List.mem_range.2 hk, by simpa using h⟩

def firstNZ (a : VV) : Int := match (List.range (osl a).length).find? (fun i => !decide (qAt a i = 0)) with | some i => (i : Int) | none => -1
theorem firstNZ_none {a : VV} (h : zeroTo a (osl a).length = true) : firstNZ a = -1 := by
  unfold firstNZ
  have : (List.range (osl a).length).find? (fun i => !decide (qAt a i = 0)) = none := by
    rw [List.find?_eq_none]
    intro i hi
    have := List.all_eq_true.1 h i hi
    simpa using this
  rw [this]
theorem firstNZ_some {a : VV} {k : Nat} (hk : k < (osl a).length) (hz : zeroTo a k = true) (h : qAt a k ≠ 0) : firstNZ a = k := by
  unfold firstNZ
  have : (List.range (osl a).length).find? (fun i => !decide (qAt a i = 0)) = some k := by
    rw [List.find?_range_eq_some]
    refine ⟨by simpa using h, List.mem_range.2 hk, fun i hi => ?_⟩
    have := List.all_eq_true.1 hz i (List.mem_range.2 hi)
    simpa using this
  rw [this]

abbrev c163_k1 : CC := (.seq (.reg [⟨(some 4), none, (.mv (.const (.int .i64 (-1))))⟩]) .ret)
abbrev c163_b1 : CC := (.seq (.reg [⟨(some 9), none, (.bin .lss (.tmp 8) (.tmp 7))⟩]) (.seq (.cond (.tmp 9) .skip (.exit 0)) (.seq (.block 1 (.seq (.reg [⟨(some 10), none, (.mv (.tmp 8))⟩, ⟨(some 5), none, (.mv (.tmp 10))⟩]) (.seq (.reg [⟨(some 11), none, (.mv (.tmp 1))⟩, ⟨(some 12), none, (.mv (.tmp 0))⟩, ⟨(some 13), none, (.mv (.tmp 5))⟩, ⟨(some 14), none, (.iaddr 3 none (.tmp 12) (.tmp 13))⟩, ⟨(some 15), none, (.load 3 true (.tmp 14))⟩, ⟨(some 16), none, (.callf (.tmp 11) [(.tmp 15)])⟩]) (.cond (.tmp 16) (.seq (.reg [⟨(some 17), none, (.mv (.tmp 5))⟩, ⟨(some 4), none, (.mv (.tmp 17))⟩]) .ret) .skip)))) (.reg [⟨(some 18), none, (.bin .add (.tmp 8) (.const (.int .i64 (1))))⟩, ⟨(some 8), none, (.mv (.tmp 18))⟩]))))
abbrev c163 : CC := (.seq (.reg [⟨(some 4), none, (.mv (.const (.int .i64 (0))))⟩]) (.seq (.seq (.reg [⟨(some 6), none, (.mv (.tmp 0))⟩, ⟨(some 7), none, (.len false (.tmp 6))⟩, ⟨(some 8), none, (.mv (.const (.int .i64 (0))))⟩]) (.block 0 (.loop c163_b1))) c163_k1))
theorem cc163 : ccode Try.prog [] (Try.f163.body.getD .skip) = some c163 := by kernel_rfl
theorem body163 : Try.f163.body = some (Try.f163.body.getD .skip) := rfl

theorem indexf_C (a : VV) (n L : Nat) (ha : FitsV a n L) (hn : n ≤ 1000000) (hL2 : L ≤ 1000000) :
    PureC Try.prog 163 [aV a, aZero1] (.ret (aI (firstNZ a))) := by
  have ha1 := ha.1
  refine pureC_of (rs := [(RV.tmp 4)]) Try.func163 (fun a w => Try.call163 a w) body163 cc163 (by kernel_rfl) ?_
  rw [Try.ntmps163]
  simp only [frs, Nat.reduceAdd, Nat.reduceSub]
  repeat (first | (with_reducible first | refine Way.imp ?_ | refine blk_o rfl ?_) | ((with_reducible refine WayR.imp (fun K hK => ?_)); simp (disch := first | omega | (simp only [dls]; omega)) only [std, reduceIte, reduceCtorEq, Int.reduceToNat, Nat.reduceAdd, Nat.reduceSub, Nat.reduceMul, Int.reduceAdd, Int.reduceSub, Int.reduceMul, Int.reduceNeg, fU]; subst hK))
  refine awp_loop (fun (zz : Nat) => ⟨(aV a :: aZero1 :: .junk :: .junk :: aI 0 :: .junk :: aV a :: aI (osl a).length :: aI zz :: .junk :: .junk :: .junk :: .junk :: .junk :: .junk :: .junk :: .junk :: .junk :: .junk :: []), []⟩) (fun (zz : Nat) => zz ≤ (osl a).length ∧ zeroTo a zz = true) (fun (zz : Nat) => (osl a).length - zz) (0) ?hI1 (Fgt.head (Nat.le_refl _) [true, true, false, false, true, false, true, true, true] ?hT1 ?hH1) ?hB1
  case hT1 => first | (simp (disch := omega) only [hds, liveT, cleanAV, cleanCell, clean1, cleanBlk, reduceIte, Int.reduceSub, Int.reduceAdd, Int.reduceNeg]; done) | rfl
  case hH1 => first | (simp (disch := omega) only [hds, liveT, cleanAV, cleanCell, clean1, cleanBlk, reduceIte, Int.reduceSub, Int.reduceAdd, Int.reduceNeg]; done) | rfl
  · exact ⟨Nat.zero_le _, rfl⟩
  rintro i ⟨hi, hs⟩
  by_cases him : i = (osl a).length
  · repeat (first | (with_reducible first | refine Way.imp ?_ | refine blk_o rfl ?_) | ((with_reducible refine WayR.imp (fun K hK => ?_)); simp (disch := first | omega | (simp only [dls]; omega)) only [std, reduceIte, reduceCtorEq, Int.reduceToNat, Nat.reduceAdd, Nat.reduceSub, Nat.reduceMul, Int.reduceAdd, Int.reduceSub, Int.reduceMul, Int.reduceNeg, fU]; subst hK))
    rw [firstNZ_none (by rw [← him]; exact hs)]
    exact ⟨_, rfl, rfl⟩
  · have hlt : i < (osl a).length := by omega
    have hz := zero1_C (osl a)[i] ((ha.2 _ (List.getElem_mem hlt)).mono (by omega))
    rw [← rAt_in hlt] at hz
    change PureC _ _ _ (.ret (aB (!decide (qAt a i = 0)))) at hz
    rw [rAt_in hlt] at hz
    by_cases he : qAt a i = 0
    · rw [decide_eq_true he] at hz
      repeat (first | (with_reducible first | refine Way.imp ?_ | refine blk_o rfl ?_) | ((with_reducible refine WayR.imp (fun K hK => ?_)); simp (disch := first | omega | (simp only [dls]; omega)) only [std, reduceIte, reduceCtorEq, Int.reduceToNat, Nat.reduceAdd, Nat.reduceSub, Nat.reduceMul, Int.reduceAdd, Int.reduceSub, Int.reduceMul, Int.reduceNeg, fU, fR, Bool.not_true]; subst hK) | refine zcV (hz) rfl rfl rfl ?_)
      refine ⟨(i + 1), ?hI2, ?hM2, Fgt.head (Nat.le_refl _) [true, true, false, false, true, false, true, true, true] ?hT2 ?hH2⟩
      case hT2 => first | (simp (disch := omega) only [hds, liveT, cleanAV, cleanCell, clean1, cleanBlk, reduceIte, Int.reduceSub, Int.reduceAdd, Int.reduceNeg]; done) | rfl
      case hH2 => first | (simp (disch := omega) only [hds, liveT, cleanAV, cleanCell, clean1, cleanBlk, reduceIte, Int.reduceSub, Int.reduceAdd, Int.reduceNeg]; done) | rfl
      · exact ⟨Nat.succ_le_of_lt hlt, by rw [zeroTo_succ, hs, decide_eq_true he]; rfl⟩
      · show (osl a).length - (i + 1) < (osl a).length - i; omega
    · rw [decide_eq_false he] at hz
      repeat (first | (with_reducible first | refine Way.imp ?_ | refine blk_o rfl ?_) | ((with_reducible refine WayR.imp (fun K hK => ?_)); simp (disch := first | omega | (simp only [dls]; omega)) only [std, reduceIte, reduceCtorEq, Int.reduceToNat, Nat.reduceAdd, Nat.reduceSub, Nat.reduceMul, Int.reduceAdd, Int.reduceSub, Int.reduceMul, Int.reduceNeg, fU, fR, Bool.not_false]; subst hK) | refine zcV (hz) rfl rfl rfl ?_)
      rw [firstNZ_some hlt hs he]
      exact ⟨_, rfl, rfl⟩

end Go.Proofs.Ytdhkdnmefeeclaa
set_option linter.unusedSimpArgs false
set_option linter.unusedVariables false
set_option maxRecDepth 100000
set_option maxHeartbeats 4000000
namespace Go.Proofs.Ytdhkdnmefeeclaa
open Go Go.Am Go.Proofs Go.RowKit Go.Off

theorem firstNZ_zero (a : VV) : (decide (firstNZ a ≥ 0)) = !zeroQ a := by
  unfold zeroQ
  cases h : zeroTo a (osl a).length with
  | true => rw [firstNZ_none h]; rfl
  | false =>
    unfold firstNZ
    cases hf : (List.range (osl a).length).find? (fun i => !decide (qAt a i = 0)) with
    | none =>
      exfalso
      rw [List.find?_eq_none] at hf
      unfold zeroTo at h
      rw [List.all_eq_false] at h
      obtain ⟨x, hx, hn⟩ := h
      exact hf x hx (by simpa using hn)
    | some k => simp

abbrev c111 : CC := (.seq (.reg [⟨(some 4), none, (.mv (.const (.bool false)))⟩]) (.seq (.reg [⟨(some 5), none, (.mv (.tmp 0))⟩, ⟨(some 6), none, (.mv (.tmp 1))⟩, ⟨(some 7), none, (.callf (.func 163) [(.tmp 5), (.tmp 6)])⟩, ⟨(some 8), none, (.bin .geq (.tmp 7) (.const (.int .i64 (0))))⟩, ⟨(some 4), none, (.mv (.tmp 8))⟩]) .ret))
theorem cc111 : ccode Try.prog [] (Try.f111.body.getD .skip) = some c111 := by kernel_rfl
theorem body111 : Try.f111.body = some (Try.f111.body.getD .skip) := rfl

theorem containsf_C (a : VV) (n L : Nat) (ha : FitsV a n L) (hn : n ≤ 1000000) (hL2 : L ≤ 1000000) :
    PureC Try.prog 111 [aV a, aZero1] (.ret (aB (!zeroQ a))) := by
  have hx := indexf_C a n L ha hn hL2
  rw [← firstNZ_zero]
  refine pureC_of (rs := [(RV.tmp 4)]) Try.func111 (fun a w => Try.call111 a w) body111 cc111 (by kernel_rfl) ?_
  rw [Try.ntmps111]
  simp only [frs, Nat.reduceAdd, Nat.reduceSub]
  repeat (first | (with_reducible first | refine Way.imp ?_ | refine blk_o rfl ?_) | ((with_reducible refine WayR.imp (fun K hK => ?_)); simp (disch := first | omega | (simp only [dls]; omega)) only [std, reduceIte, reduceCtorEq, Int.reduceToNat, Nat.reduceAdd, Nat.reduceSub, Nat.reduceMul, Int.reduceAdd, Int.reduceSub, Int.reduceMul, Int.reduceNeg, fU]; subst hK) | refine zcA (hx) rfl rfl rfl ?_)
  exact ⟨_, rfl, rfl⟩

abbrev c52 : CC := (.seq (.reg [⟨(some 2), none, (.mv (.const (.bool false)))⟩]) (.seq (.reg [⟨(some 3), none, (.mv (.tmp 0))⟩, ⟨(some 4), none, (.callf (.func 111) [(.tmp 3), (.func 112)])⟩, ⟨(some 5), none, (.un .not (.tmp 4))⟩, ⟨(some 2), none, (.mv (.tmp 5))⟩]) .ret))
theorem cc52 : ccode Try.prog [] (Try.f52.body.getD .skip) = some c52 := by kernel_rfl
theorem body52 : Try.f52.body = some (Try.f52.body.getD .skip) := rfl

theorem vzero_C (a : VV) (n L : Nat) (ha : FitsV a n L) (hn : n ≤ 1000000) (hL2 : L ≤ 1000000) : PureC Try.prog 52 [aV a] (.ret (aB (zeroQ a))) := by
  have hx := containsf_C a n L ha hn hL2
  have hb : zeroQ a = !!zeroQ a := by simp
  rw [hb]
  refine pureC_of (rs := [(RV.tmp 2)]) Try.func52 (fun a w => Try.call52 a w) body52 cc52 (by kernel_rfl) ?_
  rw [Try.ntmps52]
  simp only [frs, Nat.reduceAdd, Nat.reduceSub]
  repeat (first | (with_reducible first | refine Way.imp ?_ | refine blk_o rfl ?_) | ((with_reducible refine WayR.imp (fun K hK => ?_)); simp (disch := first | omega | (simp only [dls]; omega)) only [std, reduceIte, reduceCtorEq, Int.reduceToNat, Nat.reduceAdd, Nat.reduceSub, Nat.reduceMul, Int.reduceAdd, Int.reduceSub, Int.reduceMul, Int.reduceNeg, fU]; subst hK) | refine zcA (hx) rfl rfl rfl ?_)
  exact ⟨_, rfl, rfl⟩

end Go.Proofs.Ytdhkdnmefeeclaa
set_option linter.unusedSimpArgs false
set_option linter.unusedVariables false
set_option maxRecDepth 100000
set_option maxHeartbeats 4000000
namespace Go.Proofs.Ytdhkdnmefeeclaa
open Go Go.Am Go.Proofs Go.RowKit Go.Off

theorem ints_R (a : List Int) (hl : a.length ≤ 1000000) (hb : ∀ n ∈ a, -9223372036854775808 ≤ n ∧ n ≤ 9223372036854775807) : PureC Try.prog 57 [.one (.c (encSl 1 fI (some a)))] (.ret (aV (rowO (a.map fun n : Int => rawQ (n : Rat))))) :=
  PureC.fresh_rowO ((ints_C a hl hb).to (by cases a <;> rfl))
theorem vadd_R (a b : VV) (n L : Nat) (ha : FitsV a n L) (hb : FitsV b n L) (hn : n ≤ 1000000) (hL : 1 ≤ L) (hL2 : L ≤ 1000000) : PureC Try.prog 43 [aV a, aV b] (.ret (aV (rowO ((addQ a b).map rawQ)))) :=
  PureC.fresh_rowO ((vadd_C a b n L ha hb hn hL hL2).to (by rw [List.map_map, List.isEmpty_map]; rfl))
theorem vscale_R (a : VV) (by' : RR) (n L : Nat) (ha : FitsV a n L) (hb : Fits by' L) (hn : n ≤ 1000000) (hL : 1 ≤ L) (hL2 : L ≤ 1000000) : PureC Try.prog 45 [aV a, aR by'] (.ret (aV (rowO ((scaleQ a by'.val).map rawQ)))) :=
  PureC.fresh_rowO ((vscale_C a by' n L ha hb hn hL hL2).to (by rw [List.map_map, List.isEmpty_map]; rfl))

def shortR (r : RR) : Bool := decide ((osl r.size).length ≤ 3) && decide ((osl r.den).length ≤ 3)
theorem shortR_fits {r : RR} (h : shortR r = true) : Fits r 3 := by
  simp only [shortR, Bool.and_eq_true, decide_eq_true_eq] at h
  exact h
def fewTo (a : VV) (k : Nat) : Bool := (List.range k).all fun i => shortR (rAt a i)
def fewB (a : VV) : Bool := fewTo a (min (osl a).length 9) && decide ((osl a).length ≤ 8)
theorem fewTo_succ (a : VV) (k : Nat) : fewTo a (k + 1) = (fewTo a k && shortR (rAt a k)) := by
  unfold fewTo; rw [List.range_succ, List.all_append]; simp
theorem fewTo_false {a : VV} {k m : Nat} (hk : k < m) (h : shortR (rAt a k) = false) : fewTo a m = false := by
  unfold fewTo
  rw [List.all_eq_false]
  exact ⟨k, List.mem_range.2 hk, by simp [h]⟩
theorem fewB_fits {a : VV} (h : fewB a = true) : FitsV a 8 3 := by
  simp only [fewB, Bool.and_eq_true, decide_eq_true_eq] at h
  refine ⟨h.2, fun r hr => ?_⟩
  obtain ⟨i, hi, rfl⟩ := List.getElem_of_mem hr
  have := List.all_eq_true.1 h.1 i (List.mem_range.2 (by omega))
  rw [rAt_in hi] at this
  exact shortR_fits this

abbrev c26_k1 : CC := (.seq (.reg [⟨(some 31), none, (.mv (.tmp 0))⟩, ⟨(some 32), none, (.len false (.tmp 31))⟩, ⟨(some 33), none, (.bin .leq (.tmp 32) (.const (.int .i64 (8))))⟩, ⟨(some 2), none, (.mv (.tmp 33))⟩]) .ret)
abbrev c26_b1 : CC := (.seq (.seq (.reg [⟨(some 4), none, (.mv (.tmp 3))⟩, ⟨(some 5), none, (.mv (.tmp 0))⟩, ⟨(some 6), none, (.len false (.tmp 5))⟩, ⟨(some 7), none, (.bin .lss (.tmp 4) (.tmp 6))⟩, ⟨(some 8), none, (.mv (.tmp 7))⟩, ⟨(some 9), (some (8, true)), (.mv (.tmp 3))⟩, ⟨(some 10), (some (8, true)), (.bin .leq (.tmp 9) (.const (.int .i64 (8))))⟩, ⟨(some 11), none, (.pick (.tmp 8) (.tmp 10) (.const (.bool false)))⟩]) (.cond (.tmp 11) .skip (.exit 0))) (.seq (.block 1 (.seq (.reg [⟨(some 14), none, (.mv (.tmp 0))⟩, ⟨(some 15), none, (.mv (.tmp 3))⟩, ⟨(some 16), none, (.iaddr 3 none (.tmp 14) (.tmp 15))⟩, ⟨(some 17), none, (.faddr 0 (.tmp 16))⟩, ⟨(some 18), none, (.faddr 1 (.tmp 17))⟩, ⟨(some 19), none, (.load 1 false (.tmp 18))⟩, ⟨(some 20), none, (.len false (.tmp 19))⟩, ⟨(some 21), none, (.bin .gtr (.tmp 20) (.const (.int .i64 (3))))⟩, ⟨(some 22), none, (.mv (.tmp 21))⟩, ⟨(some 23), (some (22, false)), (.mv (.tmp 0))⟩, ⟨(some 24), (some (22, false)), (.mv (.tmp 3))⟩, ⟨(some 25), (some (22, false)), (.iaddr 3 none (.tmp 23) (.tmp 24))⟩, ⟨(some 26), (some (22, false)), (.faddr 2 (.tmp 25))⟩, ⟨(some 27), (some (22, false)), (.load 1 false (.tmp 26))⟩, ⟨(some 28), (some (22, false)), (.len false (.tmp 27))⟩, ⟨(some 29), (some (22, false)), (.bin .gtr (.tmp 28) (.const (.int .i64 (3))))⟩, ⟨(some 30), none, (.pick (.tmp 22) (.const (.bool true)) (.tmp 29))⟩]) (.cond (.tmp 30) (.seq (.reg [⟨(some 2), none, (.mv (.const (.bool false)))⟩]) .ret) .skip))) (.reg [⟨(some 12), none, (.mv (.tmp 3))⟩, ⟨(some 13), none, (.bin .add (.tmp 12) (.const (.int .i64 (1))))⟩, ⟨(some 3), none, (.mv (.tmp 13))⟩])))
abbrev c26 : CC := (.seq (.reg [⟨(some 2), none, (.mv (.const (.bool false)))⟩]) (.seq (.seq (.reg [⟨(some 3), none, (.mv (.const (.int .i64 (0))))⟩]) (.block 0 (.loop c26_b1))) c26_k1))
theorem cc26 : ccode Try.prog [] (Try.f26.body.getD .skip) = some c26 := by kernel_rfl
theorem body26 : Try.f26.body = some (Try.f26.body.getD .skip) := rfl

theorem few_C (a : VV) : PureC Try.prog 26 [aV a] (.ret (aB (fewB a))) := by
  unfold fewB
  refine pureC_of (rs := [(RV.tmp 2)]) Try.func26 (fun a w => Try.call26 a w) body26 cc26 (by kernel_rfl) ?_
  rw [Try.ntmps26]
  simp only [frs, Nat.reduceAdd, Nat.reduceSub]
  repeat (first | (with_reducible first | refine Way.imp ?_ | refine blk_o rfl ?_) | ((with_reducible refine WayR.imp (fun K hK => ?_)); simp (disch := first | omega | (simp only [dls]; omega)) only [std, reduceIte, reduceCtorEq, Int.reduceToNat, Nat.reduceAdd, Nat.reduceSub, Nat.reduceMul, Int.reduceAdd, Int.reduceSub, Int.reduceMul, Int.reduceNeg, fU]; subst hK))
  refine awp_loop (fun (zz : Nat) => ⟨(aV a :: .junk :: aB false :: aI zz :: .junk :: .junk :: .junk :: .junk :: .junk :: .junk :: .junk :: .junk :: .junk :: .junk :: .junk :: .junk :: .junk :: .junk :: .junk :: .junk :: .junk :: .junk :: .junk :: .junk :: .junk :: .junk :: .junk :: .junk :: .junk :: .junk :: .junk :: .junk :: .junk :: .junk :: []), []⟩) (fun (zz : Nat) => zz ≤ min (osl a).length 9 ∧ fewTo a zz = true) (fun (zz : Nat) => 10 - zz) (0) ?hI1 (Fgt.head (Nat.le_refl _) [true, false, true, true] ?hT1 ?hH1) ?hB1
  case hT1 => first | (simp (disch := omega) only [hds, liveT, cleanAV, cleanCell, clean1, cleanBlk, reduceIte, Int.reduceSub, Int.reduceAdd, Int.reduceNeg]; done) | rfl
  case hH1 => first | (simp (disch := omega) only [hds, liveT, cleanAV, cleanCell, clean1, cleanBlk, reduceIte, Int.reduceSub, Int.reduceAdd, Int.reduceNeg]; done) | rfl
  · exact ⟨Nat.zero_le _, rfl⟩
  rintro i ⟨hi, hs⟩
  by_cases h1 : i < (osl a).length
  · by_cases h2 : i ≤ 8
    · have hsh : shortR (rAt a i) = (decide ((osl (osl a)[i].size).length ≤ 3) && decide ((osl (osl a)[i].den).length ≤ 3)) := by unfold shortR; rw [rAt_in h1]
      by_cases s1 : (osl (osl a)[i].size).length ≤ 3
      · by_cases s2 : (osl (osl a)[i].den).length ≤ 3
        · repeat (first | (with_reducible first | refine Way.imp ?_ | refine blk_o rfl ?_) | ((with_reducible refine WayR.imp (fun K hK => ?_)); simp (disch := first | omega | (simp only [dls]; omega)) only [std, reduceIte, reduceCtorEq, Int.reduceToNat, Nat.reduceAdd, Nat.reduceSub, Nat.reduceMul, Int.reduceAdd, Int.reduceSub, Int.reduceMul, Int.reduceNeg, fU, fR]; subst hK))
          refine ⟨(i + 1), ?hI2, ?hM2, Fgt.head (Nat.le_refl _) [true, false, true, true] ?hT2 ?hH2⟩
          case hT2 => first | (simp (disch := omega) only [hds, liveT, cleanAV, cleanCell, clean1, cleanBlk, reduceIte, Int.reduceSub, Int.reduceAdd, Int.reduceNeg]; done) | rfl
          case hH2 => first | (simp (disch := omega) only [hds, liveT, cleanAV, cleanCell, clean1, cleanBlk, reduceIte, Int.reduceSub, Int.reduceAdd, Int.reduceNeg]; done) | rfl
          · exact ⟨by omega, by rw [fewTo_succ, hs, hsh, decide_eq_true s1, decide_eq_true s2]; rfl⟩
          · show 10 - (i + 1) < 10 - i; omega
        · rw [fewTo_false (show i < min (osl a).length 9 by omega) (by rw [hsh, decide_eq_false s2]; simp)]
          repeat (first | (with_reducible first | refine Way.imp ?_ | refine blk_o rfl ?_) | ((with_reducible refine WayR.imp (fun K hK => ?_)); simp (disch := first | omega | (simp only [dls]; omega)) only [std, reduceIte, reduceCtorEq, Int.reduceToNat, Nat.reduceAdd, Nat.reduceSub, Nat.reduceMul, Int.reduceAdd, Int.reduceSub, Int.reduceMul, Int.reduceNeg, fU, fR]; subst hK))
          exact ⟨_, rfl, rfl⟩
      · rw [fewTo_false (show i < min (osl a).length 9 by omega) (by rw [hsh, decide_eq_false s1]; simp)]
        repeat (first | (with_reducible first | refine Way.imp ?_ | refine blk_o rfl ?_) | ((with_reducible refine WayR.imp (fun K hK => ?_)); simp (disch := first | omega | (simp only [dls]; omega)) only [std, reduceIte, reduceCtorEq, Int.reduceToNat, Nat.reduceAdd, Nat.reduceSub, Nat.reduceMul, Int.reduceAdd, Int.reduceSub, Int.reduceMul, Int.reduceNeg, fU, fR]; subst hK))
        exact ⟨_, rfl, rfl⟩
    · have h9 : i = min (osl a).length 9 := by omega
      rw [← h9, hs, decide_eq_false (by omega)]
      repeat (first | (with_reducible first | refine Way.imp ?_ | refine blk_o rfl ?_) | ((with_reducible refine WayR.imp (fun K hK => ?_)); simp (disch := first | omega | (simp only [dls]; omega)) only [std, reduceIte, reduceCtorEq, Int.reduceToNat, Nat.reduceAdd, Nat.reduceSub, Nat.reduceMul, Int.reduceAdd, Int.reduceSub, Int.reduceMul, Int.reduceNeg, fU]; subst hK))
      exact ⟨_, rfl, rfl⟩
  · have h9 : i = min (osl a).length 9 := by omega
    rw [← h9, hs]
    by_cases h8 : (osl a).length ≤ 8
    · rw [decide_eq_true h8]
      repeat (first | (with_reducible first | refine Way.imp ?_ | refine blk_o rfl ?_) | ((with_reducible refine WayR.imp (fun K hK => ?_)); simp (disch := first | omega | (simp only [dls]; omega)) only [std, reduceIte, reduceCtorEq, Int.reduceToNat, Nat.reduceAdd, Nat.reduceSub, Nat.reduceMul, Int.reduceAdd, Int.reduceSub, Int.reduceMul, Int.reduceNeg, fU]; subst hK))
      exact ⟨_, rfl, rfl⟩
    · rw [decide_eq_false h8]
      repeat (first | (with_reducible first | refine Way.imp ?_ | refine blk_o rfl ?_) | ((with_reducible refine WayR.imp (fun K hK => ?_)); simp (disch := first | omega | (simp only [dls]; omega)) only [std, reduceIte, reduceCtorEq, Int.reduceToNat, Nat.reduceAdd, Nat.reduceSub, Nat.reduceMul, Int.reduceAdd, Int.reduceSub, Int.reduceMul, Int.reduceNeg, fU]; subst hK))
      exact ⟨_, rfl, rfl⟩

end Go.Proofs.Ytdhkdnmefeeclaa
set_option linter.unusedSimpArgs false
set_option linter.unusedVariables false
set_option maxRecDepth 100000
set_option maxHeartbeats 4000000
namespace Go.Proofs.Ytdhkdnmefeeclaa
open Go Go.Am Go.Proofs Go.RowKit Go.Off

theorem rd_u32 : Reads Try.prog 183 (fun l => ∃ d : UInt32, True ∧ l = fU d) := reads_mono (reads_int Try.underlying183) (by
  rintro l ⟨n, hw, rfl⟩
  have hb : 0 ≤ n ∧ n ≤ 4294967295 := by simpa [Lit.wf, IntKind.min, IntKind.max, IntKind.signed, IntKind.bits] using hw
  refine ⟨UInt32.ofNat n.toNat, trivial, ?_⟩
  have : (UInt32.ofNat n.toNat).toNat = n.toNat := by simp [UInt32.toNat_ofNat, Nat.mod_eq_of_lt (show n.toNat < 4294967296 by omega)]
  simp only [fU, this]
  rw [Int.toNat_of_nonneg hb.1])
theorem rd_nat : Reads Try.prog 36 (fun l => ∃ r : Row, l = [nr r]) := reads_mono (reads_slice (k := 1) Try.underlying36 (by kernel_rfl) (by decide) (fun a => rfl) rd_u32) (by
  rintro l ⟨s, _, rfl⟩
  exact ⟨s, rfl⟩)
theorem rd_bool : Reads Try.prog 4 (fun l => ∃ b : Bool, l = [.val (.bool b)]) := reads_bool Try.underlying4
theorem rd_int : Reads Try.prog 3 (fun l => ∃ n : Int, (-9223372036854775808 ≤ n ∧ n ≤ 9223372036854775807) ∧ l = [.val (.int .i64 n)]) := reads_mono (reads_int Try.underlying3) (by
  rintro l ⟨n, hw, rfl⟩
  exact ⟨n, by simpa [Lit.wf, IntKind.min, IntKind.max, IntKind.signed, IntKind.bits] using hw, rfl⟩)
theorem rd_whole : Reads Try.prog 38 (fun l => ∃ (b : Bool) (r : Row), l = [.val (.bool b), nr r]) := reads_mono (reads_struct2 (c0 := 1) (c1 := 1) Try.underlying38 rfl (by kernel_rfl) rfl (by kernel_rfl) (by kernel_rfl) rd_bool rd_nat) (by
  rintro l ⟨l0, l1, ⟨b, rfl⟩, ⟨r, rfl⟩, rfl⟩
  exact ⟨b, r, rfl⟩)
theorem rd_rat : Reads Try.prog 40 (fun l => ∃ r : RR, True ∧ l = fR r) := reads_mono (reads_struct2 (c0 := 2) (c1 := 1) Try.underlying40 rfl (by kernel_rfl) rfl (by kernel_rfl) (by kernel_rfl) rd_whole rd_nat) (by
  rintro l ⟨l0, l1, ⟨b, s, rfl⟩, ⟨d, rfl⟩, rfl⟩
  exact ⟨⟨b, s, d⟩, trivial, rfl⟩)
theorem rd_vec : Reads Try.prog 22 (fun l => ∃ a : VV, l = [vr a]) := reads_mono (reads_slice (k := 3) Try.underlying22 (by kernel_rfl) (by decide) (fun a => rfl) rd_rat) (by
  rintro l ⟨s, _, rfl⟩
  exact ⟨s, rfl⟩)

end Go.Proofs.Ytdhkdnmefeeclaa
