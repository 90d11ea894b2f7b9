/- Walks of vec: Same, Zero. -/
import Derived.Test.YtdhkdnmefeeclaaV1
set_option linter.unusedSimpArgs false
set_option linter.unusedVariables false
set_option linter.unnecessarySimpa false
set_option linter.unusedSimpArgs false
set_option linter.unusedVariables false
set_option maxRecDepth 100000
set_option maxHeartbeats 4000000
namespace Go.Proofs.Ytdhkdnmefeeclaa
open Go Go.Am Go.Proofs Go.RowKit Go.Off

theorem cmpQ_zero (a b : Rat) : (cmpQ a b == 0) = decide (a = b) := by
  unfold cmpQ
  by_cases h1 : a < b
  · have : a ≠ b := fun e => Rat.lt_irrefl (e ▸ h1)
    rw [if_pos h1]; simp [this]
  · by_cases h2 : b < a
    · have : a ≠ b := fun e => Rat.lt_irrefl (e ▸ h2)
      rw [if_neg h1, if_pos h2]; simp [this]
    · have : a = b := Rat.le_antisymm (Rat.not_lt.1 h2) (Rat.not_lt.1 h1)
      rw [if_neg h1, if_neg h2]; simp [this]

abbrev c110 : CC := (CC.seq (CC.reg [⟨(some 2), none, (COp.box 40 (Operand.tmp 0))⟩, ⟨(some 3), none, (COp.box 40 (Operand.tmp 1))⟩, ⟨(some 4), none, (COp.mv (Operand.const (Value.bool false)))⟩]) (CC.seq (CC.reg [⟨(some 5), none, (COp.load 3 true (Operand.tmp 2))⟩, ⟨(some 6), none, (COp.load 3 true (Operand.tmp 3))⟩, ⟨(some 7), none, (COp.callf (Operand.func 46) [(Operand.tmp 5), (Operand.tmp 6)])⟩, ⟨(some 8), none, (COp.bin BinOp.eql (Operand.tmp 7) (Operand.const (Value.int IntKind.i64 (0))))⟩, ⟨(some 4), none, (COp.mv (Operand.tmp 8))⟩]) CC.ret))
theorem cc110 : ccode Try.prog [] (Try.f110.body.getD .skip) = some c110 := by kernel_rfl
theorem body110 : Try.f110.body = some (Try.f110.body.getD .skip) := rfl

theorem same1_C (a b : RR) (ha : Fits a 90000000) (hb : Fits b 90000000) : PureC Try.prog 110 [aR a, aR b] (.ret (aB (decide (a.val = b.val)))) := by
  have hc := rcompare_C a b ha hb
  rw [← cmpQ_zero]
  refine pureC_of (rs := [(RV.tmp 4)]) Try.func110 (fun a w => Try.call110 a w) body110 cc110 (by kernel_rfl) ?_
  rw [Try.ntmps110]
  simp only [frs, Nat.reduceAdd, Nat.reduceSub]
  repeat (first | (with_reducible first | refine zw10 ?_ | refine zw1 ?_ | refine zw4 ?_ | refine zw18 ?_ | refine zw19 ?_ | refine zw11 ?_ | refine zw12 ?_ | refine zw14 ?_ | refine zw2 ?_ | refine zw5 ?_ | refine zw9 ?_ | refine zw13 ?_ | refine zw3 ?_ | refine zw6 ?_ | refine zw8 ?_ | refine zw15 ?_ | refine zw16 ?_ | refine zw17 ?_ | refine blk_o rfl ?_) | ((with_reducible first | refine zb1 mixed (fun K hK => ?_) | refine zb2 (fun K hK => ?_) | refine zb3 (fun K hK => ?_)); simp (disch := first | omega | (simp only [dls]; omega)) only [std, cev, cstep, St.ev, putT, AV.cells?, AV.int?, AV.bool?, AV.str?, readN, mkAV, putN, guardWant, bound, Value.oneCell', opO, putSt, reduceIte, reduceCtorEq, Int.reduceToNat, Nat.reduceAdd, Nat.reduceSub, Nat.reduceMul, Int.reduceAdd, Int.reduceSub, Int.reduceMul, Int.reduceNeg, fU]; subst hK) | refine zcA (hc) rfl rfl rfl ?_)
  exact ⟨_, rfl, rfl⟩

abbrev c112 : CC := (CC.seq (CC.reg [⟨(some 1), none, (COp.box 40 (Operand.tmp 0))⟩, ⟨(some 2), none, (COp.mv (Operand.const (Value.bool false)))⟩]) (CC.seq (CC.reg [⟨(some 3), none, (COp.load 3 true (Operand.tmp 1))⟩, ⟨(some 4), none, (COp.callf (Operand.func 33) [(Operand.tmp 3)])⟩, ⟨(some 5), none, (COp.bin BinOp.neq (Operand.tmp 4) (Operand.const (Value.int IntKind.i64 (0))))⟩, ⟨(some 2), none, (COp.mv (Operand.tmp 5))⟩]) CC.ret))
theorem cc112 : ccode Try.prog [] (Try.f112.body.getD .skip) = some c112 := by kernel_rfl
theorem body112 : Try.f112.body = some (Try.f112.body.getD .skip) := rfl

theorem zero1_C (a : RR) (ha : Fits a 90000000) : PureC Try.prog 112 [aR a] (.ret (aB (!decide (a.val = 0)))) := by
  have hs := rsign_C a (ha.mono (by omega))
  have he := (sgn_zero_iff a.top).trans (top_zero a)
  have hb : (!decide (a.val = 0)) = (sgn a.top != 0) := by
    by_cases h : a.val = 0
    · rw [he.2 h]; simp [h]
    · have hne : sgn a.top ≠ 0 := fun e => h (he.1 e)
      simp [h, hne]
  rw [hb]
  refine pureC_of (rs := [(RV.tmp 2)]) Try.func112 (fun a w => Try.call112 a w) body112 cc112 (by kernel_rfl) ?_
  rw [Try.ntmps112]
  simp only [frs, Nat.reduceAdd, Nat.reduceSub]
  repeat (first | (with_reducible first | refine zw10 ?_ | refine zw1 ?_ | refine zw4 ?_ | refine zw18 ?_ | refine zw19 ?_ | refine zw11 ?_ | refine zw12 ?_ | refine zw14 ?_ | refine zw2 ?_ | refine zw5 ?_ | refine zw9 ?_ | refine zw13 ?_ | refine zw3 ?_ | refine zw6 ?_ | refine zw8 ?_ | refine zw15 ?_ | refine zw16 ?_ | refine zw17 ?_ | refine blk_o rfl ?_) | ((with_reducible first | refine zb1 mixed (fun K hK => ?_) | refine zb2 (fun K hK => ?_) | refine zb3 (fun K hK => ?_)); simp (disch := first | omega | (simp only [dls]; omega)) only [std, cev, cstep, St.ev, putT, AV.cells?, AV.int?, AV.bool?, AV.str?, readN, mkAV, putN, guardWant, bound, Value.oneCell', opO, putSt, reduceIte, reduceCtorEq, Int.reduceToNat, Nat.reduceAdd, Nat.reduceSub, Nat.reduceMul, Int.reduceAdd, Int.reduceSub, Int.reduceMul, Int.reduceNeg, fU]; subst hK) | refine zcA (hs) rfl rfl rfl ?_)
  exact ⟨_, rfl, rfl⟩

end Go.Proofs.Ytdhkdnmefeeclaa
set_option linter.unusedSimpArgs false
set_option linter.unusedVariables false
set_option maxRecDepth 100000
set_option maxHeartbeats 4000000
namespace Go.Proofs.Ytdhkdnmefeeclaa
open Go Go.Am Go.Proofs Go.RowKit Go.Off

abbrev aSame1 : AV := .one (.fn 110 [])
def sameTo (a b : VV) (k : Nat) : Bool := (List.range k).all fun i => decide (qAt a i = qAt b i)
def sameQ (a b : VV) : Bool := ((osl a).length == (osl b).length) && sameTo a b (osl a).length
theorem sameTo_succ (a b : VV) (k : Nat) : sameTo a b (k + 1) = (sameTo a b k && decide (qAt a k = qAt b k)) := by
  unfold sameTo; rw [List.range_succ, List.all_append]; simp
theorem sameTo_false {a b : VV} {k m : Nat} (hk : k < m) (h : qAt a k ≠ qAt b k) : sameTo a b m = false := by
  unfold sameTo
  rw [List.all_eq_false]
  exact ⟨k, List.mem_range.2 hk, by simpa using h⟩

abbrev c109_k1 : CC := (CC.seq (CC.reg [⟨(some 6), none, (COp.mv (Operand.const (Value.bool true)))⟩]) CC.ret)
abbrev c109_b1 : CC := (CC.seq (CC.reg [⟨(some 18), none, (COp.bin BinOp.lss (Operand.tmp 17) (Operand.tmp 16))⟩]) (CC.seq (CC.cond (Operand.tmp 18) CC.skip (CC.exit 0)) (CC.seq (CC.block 1 (CC.seq (CC.reg [⟨(some 19), none, (COp.mv (Operand.tmp 17))⟩, ⟨(some 20), none, (COp.iaddr 3 none (Operand.tmp 15) (Operand.tmp 17))⟩, ⟨(some 21), none, (COp.load 3 true (Operand.tmp 20))⟩, ⟨(some 8), none, (COp.new 40 [(Value.bool false), (Value.slice none 0 0), (Value.slice none 0 0)])⟩, ⟨(some 7), none, (COp.mv (Operand.tmp 19))⟩, ⟨none, none, (COp.store 3 (Operand.tmp 8) (Operand.tmp 21))⟩]) (CC.seq (CC.reg [⟨(some 22), none, (COp.mv (Operand.tmp 1))⟩, ⟨(some 23), none, (COp.mv (Operand.tmp 7))⟩, ⟨(some 24), none, (COp.iaddr 3 none (Operand.tmp 22) (Operand.tmp 23))⟩, ⟨(some 25), none, (COp.load 3 true (Operand.tmp 24))⟩, ⟨(some 9), none, (COp.new 40 [(Value.bool false), (Value.slice none 0 0), (Value.slice none 0 0)])⟩, ⟨none, none, (COp.store 3 (Operand.tmp 9) (Operand.tmp 25))⟩]) (CC.seq (CC.reg [⟨(some 26), none, (COp.mv (Operand.tmp 2))⟩, ⟨(some 27), none, (COp.load 3 true (Operand.tmp 8))⟩, ⟨(some 28), none, (COp.load 3 true (Operand.tmp 9))⟩, ⟨(some 29), none, (COp.callf (Operand.tmp 26) [(Operand.tmp 27), (Operand.tmp 28)])⟩, ⟨(some 30), none, (COp.un UnOp.not (Operand.tmp 29))⟩]) (CC.cond (Operand.tmp 30) (CC.seq (CC.reg [⟨(some 6), none, (COp.mv (Operand.const (Value.bool false)))⟩]) CC.ret) CC.skip))))) (CC.reg [⟨(some 31), none, (COp.bin BinOp.add (Operand.tmp 17) (Operand.const (Value.int IntKind.i64 (1))))⟩, ⟨(some 17), none, (COp.mv (Operand.tmp 31))⟩]))))
abbrev c109 : CC := (CC.seq (CC.reg [⟨(some 6), none, (COp.mv (Operand.const (Value.bool false)))⟩]) (CC.seq (CC.seq (CC.reg [⟨(some 10), none, (COp.mv (Operand.tmp 0))⟩, ⟨(some 11), none, (COp.len false (Operand.tmp 10))⟩, ⟨(some 12), none, (COp.mv (Operand.tmp 1))⟩, ⟨(some 13), none, (COp.len false (Operand.tmp 12))⟩, ⟨(some 14), none, (COp.bin BinOp.neq (Operand.tmp 11) (Operand.tmp 13))⟩]) (CC.cond (Operand.tmp 14) (CC.seq (CC.reg [⟨(some 6), none, (COp.mv (Operand.const (Value.bool false)))⟩]) CC.ret) CC.skip)) (CC.seq (CC.seq (CC.reg [⟨(some 15), none, (COp.mv (Operand.tmp 0))⟩, ⟨(some 16), none, (COp.len false (Operand.tmp 15))⟩, ⟨(some 17), none, (COp.mv (Operand.const (Value.int IntKind.i64 (0))))⟩]) (CC.block 0 (CC.loop c109_b1))) c109_k1)))
theorem cc109 : ccode Try.prog [] (Try.f109.body.getD .skip) = some c109 := by kernel_rfl
theorem body109 : Try.f109.body = some (Try.f109.body.getD .skip) := rfl

theorem equalf_C (a b : VV) (n L : Nat) (ha : FitsV a n L) (hb : FitsV b n L) (hn : n ≤ 1000000) (hL2 : L ≤ 1000000) :
    PureC Try.prog 109 [aV a, aV b, aSame1] (.ret (aB (sameQ a b))) := by
  have ha1 := ha.1
  have hb1 := hb.1
  refine pureC_of (rs := [(RV.tmp 6)]) Try.func109 (fun a w => Try.call109 a w) body109 cc109 (by kernel_rfl) ?_
  rw [Try.ntmps109]
  simp only [frs, Nat.reduceAdd, Nat.reduceSub]
  by_cases hl : (osl a).length = (osl b).length
  · have hq : sameQ a b = sameTo a b (osl a).length := by unfold sameQ; rw [hl]; simp
    rw [hq]
    repeat (first | (with_reducible first | refine zw10 ?_ | refine zw1 ?_ | refine zw4 ?_ | refine zw18 ?_ | refine zw19 ?_ | refine zw11 ?_ | refine zw12 ?_ | refine zw14 ?_ | refine zw2 ?_ | refine zw5 ?_ | refine zw9 ?_ | refine zw13 ?_ | refine zw3 ?_ | refine zw6 ?_ | refine zw8 ?_ | refine zw15 ?_ | refine zw16 ?_ | refine zw17 ?_ | refine blk_o rfl ?_) | ((with_reducible first | refine zb1 mixed (fun K hK => ?_) | refine zb2 (fun K hK => ?_) | refine zb3 (fun K hK => ?_)); simp (disch := first | omega | (simp only [dls]; omega)) only [std, cev, cstep, St.ev, putT, AV.cells?, AV.int?, AV.bool?, AV.str?, readN, mkAV, putN, guardWant, bound, Value.oneCell', opO, putSt, reduceIte, reduceCtorEq, Int.reduceToNat, Nat.reduceAdd, Nat.reduceSub, Nat.reduceMul, Int.reduceAdd, Int.reduceSub, Int.reduceMul, Int.reduceNeg, fU]; subst hK))
    refine awp_loop (fun (zz : Nat) => ⟨(aV a :: aV b :: aSame1 :: .junk :: .junk :: .junk :: aB false :: .junk :: .junk :: .junk :: .junk :: .junk :: .junk :: .junk :: .junk :: aV a :: aI (osl a).length :: aI zz :: .junk :: .junk :: .junk :: .junk :: .junk :: .junk :: .junk :: .junk :: .junk :: .junk :: .junk :: .junk :: .junk :: .junk :: []), []⟩) (fun (zz : Nat) => zz ≤ (osl a).length ∧ sameTo a b zz = true) (fun (zz : Nat) => (osl a).length - zz) (0) ?hI1 (Fgt.head (Nat.le_refl _) [true, true, true, false, false, false, true, false, false, false, false, false, false, false, false, true, true, true] ?hT1 ?hH1) ?hB1
    case hT1 => first | (simp (disch := omega) only [hds, liveT, cleanAV, cleanCell, clean1, cleanBlk, reduceIte, Int.reduceSub, Int.reduceAdd, Int.reduceNeg]; done) | rfl
    case hH1 => first | (simp (disch := omega) only [hds, liveT, cleanAV, cleanCell, clean1, cleanBlk, reduceIte, Int.reduceSub, Int.reduceAdd, Int.reduceNeg]; done) | rfl
    · exact ⟨Nat.zero_le _, rfl⟩
    rintro i ⟨hi, hs⟩
    by_cases him : i = (osl a).length
    · repeat (first | (with_reducible first | refine zw10 ?_ | refine zw1 ?_ | refine zw4 ?_ | refine zw18 ?_ | refine zw19 ?_ | refine zw11 ?_ | refine zw12 ?_ | refine zw14 ?_ | refine zw2 ?_ | refine zw5 ?_ | refine zw9 ?_ | refine zw13 ?_ | refine zw3 ?_ | refine zw6 ?_ | refine zw8 ?_ | refine zw15 ?_ | refine zw16 ?_ | refine zw17 ?_ | refine blk_o rfl ?_) | ((with_reducible first | refine zb1 mixed (fun K hK => ?_) | refine zb2 (fun K hK => ?_) | refine zb3 (fun K hK => ?_)); simp (disch := first | omega | (simp only [dls]; omega)) only [std, cev, cstep, St.ev, putT, AV.cells?, AV.int?, AV.bool?, AV.str?, readN, mkAV, putN, guardWant, bound, Value.oneCell', opO, putSt, reduceIte, reduceCtorEq, Int.reduceToNat, Nat.reduceAdd, Nat.reduceSub, Nat.reduceMul, Int.reduceAdd, Int.reduceSub, Int.reduceMul, Int.reduceNeg, fU]; subst hK))
      rw [← him, hs]
      exact ⟨_, rfl, rfl⟩
    · have hlt : i < (osl a).length := by omega
      have hltb : i < (osl b).length := by omega
      have hsm := same1_C (osl a)[i] (osl b)[i] ((ha.2 _ (List.getElem_mem hlt)).mono (by omega)) ((hb.2 _ (List.getElem_mem hltb)).mono (by omega))
      rw [← rAt_in hlt, ← rAt_in hltb] at hsm
      change PureC _ _ _ (.ret (aB (decide (qAt a i = qAt b i)))) at hsm
      rw [rAt_in hlt, rAt_in hltb] at hsm
      by_cases he : qAt a i = qAt b i
      · rw [decide_eq_true he] at hsm
        repeat (first | (with_reducible first | refine zw10 ?_ | refine zw1 ?_ | refine zw4 ?_ | refine zw18 ?_ | refine zw19 ?_ | refine zw11 ?_ | refine zw12 ?_ | refine zw14 ?_ | refine zw2 ?_ | refine zw5 ?_ | refine zw9 ?_ | refine zw13 ?_ | refine zw3 ?_ | refine zw6 ?_ | refine zw8 ?_ | refine zw15 ?_ | refine zw16 ?_ | refine zw17 ?_ | refine blk_o rfl ?_) | ((with_reducible first | refine zb1 mixed (fun K hK => ?_) | refine zb2 (fun K hK => ?_) | refine zb3 (fun K hK => ?_)); simp (disch := first | omega | (simp only [dls]; omega)) only [std, cev, cstep, St.ev, putT, AV.cells?, AV.int?, AV.bool?, AV.str?, readN, mkAV, putN, guardWant, bound, Value.oneCell', opO, putSt, reduceIte, reduceCtorEq, Int.reduceToNat, Nat.reduceAdd, Nat.reduceSub, Nat.reduceMul, Int.reduceAdd, Int.reduceSub, Int.reduceMul, Int.reduceNeg, fU, fR]; subst hK) | refine zcV (hsm) rfl rfl rfl ?_)
        refine ⟨(i + 1), ?hI2, ?hM2, Fgt.head (Nat.le_refl _) [true, true, true, false, false, false, true, false, false, false, false, false, false, false, false, true, true, true] ?hT2 ?hH2⟩
        case hT2 => first | (simp (disch := omega) only [hds, liveT, cleanAV, cleanCell, clean1, cleanBlk, reduceIte, Int.reduceSub, Int.reduceAdd, Int.reduceNeg]; done) | rfl
        case hH2 => first | (simp (disch := omega) only [hds, liveT, cleanAV, cleanCell, clean1, cleanBlk, reduceIte, Int.reduceSub, Int.reduceAdd, Int.reduceNeg]; done) | rfl
        · exact ⟨Nat.succ_le_of_lt hlt, by rw [sameTo_succ, hs, decide_eq_true he]; rfl⟩
        · show (osl a).length - (i + 1) < (osl a).length - i; omega
      · rw [decide_eq_false he] at hsm
        repeat (first | (with_reducible first | refine zw10 ?_ | refine zw1 ?_ | refine zw4 ?_ | refine zw18 ?_ | refine zw19 ?_ | refine zw11 ?_ | refine zw12 ?_ | refine zw14 ?_ | refine zw2 ?_ | refine zw5 ?_ | refine zw9 ?_ | refine zw13 ?_ | refine zw3 ?_ | refine zw6 ?_ | refine zw8 ?_ | refine zw15 ?_ | refine zw16 ?_ | refine zw17 ?_ | refine blk_o rfl ?_) | ((with_reducible first | refine zb1 mixed (fun K hK => ?_) | refine zb2 (fun K hK => ?_) | refine zb3 (fun K hK => ?_)); simp (disch := first | omega | (simp only [dls]; omega)) only [std, cev, cstep, St.ev, putT, AV.cells?, AV.int?, AV.bool?, AV.str?, readN, mkAV, putN, guardWant, bound, Value.oneCell', opO, putSt, reduceIte, reduceCtorEq, Int.reduceToNat, Nat.reduceAdd, Nat.reduceSub, Nat.reduceMul, Int.reduceAdd, Int.reduceSub, Int.reduceMul, Int.reduceNeg, fU, fR]; subst hK) | refine zcV (hsm) rfl rfl rfl ?_)
        rw [sameTo_false hlt he]
        exact ⟨_, rfl, rfl⟩
  · have hq : sameQ a b = false := by unfold sameQ; simp [hl]
    rw [hq]
    repeat (first | (with_reducible first | refine zw10 ?_ | refine zw1 ?_ | refine zw4 ?_ | refine zw18 ?_ | refine zw19 ?_ | refine zw11 ?_ | refine zw12 ?_ | refine zw14 ?_ | refine zw2 ?_ | refine zw5 ?_ | refine zw9 ?_ | refine zw13 ?_ | refine zw3 ?_ | refine zw6 ?_ | refine zw8 ?_ | refine zw15 ?_ | refine zw16 ?_ | refine zw17 ?_ | refine blk_o rfl ?_) | ((with_reducible first | refine zb1 mixed (fun K hK => ?_) | refine zb2 (fun K hK => ?_) | refine zb3 (fun K hK => ?_)); simp (disch := first | omega | (simp only [dls]; omega)) only [std, cev, cstep, St.ev, putT, AV.cells?, AV.int?, AV.bool?, AV.str?, readN, mkAV, putN, guardWant, bound, Value.oneCell', opO, putSt, reduceIte, reduceCtorEq, Int.reduceToNat, Nat.reduceAdd, Nat.reduceSub, Nat.reduceMul, Int.reduceAdd, Int.reduceSub, Int.reduceMul, Int.reduceNeg, fU]; subst hK))
    exact ⟨_, rfl, rfl⟩

end Go.Proofs.Ytdhkdnmefeeclaa
set_option linter.unusedSimpArgs false
set_option linter.unusedVariables false
set_option maxRecDepth 100000
set_option maxHeartbeats 4000000
namespace Go.Proofs.Ytdhkdnmefeeclaa
open Go Go.Am Go.Proofs Go.RowKit Go.Off

abbrev c51 : CC := (CC.seq (CC.reg [⟨(some 4), none, (COp.mv (Operand.const (Value.bool false)))⟩]) (CC.seq (CC.reg [⟨(some 5), none, (COp.mv (Operand.tmp 0))⟩, ⟨(some 6), none, (COp.mv (Operand.tmp 1))⟩, ⟨(some 7), none, (COp.callf (Operand.func 109) [(Operand.tmp 5), (Operand.tmp 6), (Operand.func 110)])⟩, ⟨(some 4), none, (COp.mv (Operand.tmp 7))⟩]) CC.ret))
theorem cc51 : ccode Try.prog [] (Try.f51.body.getD .skip) = some c51 := by kernel_rfl
theorem body51 : Try.f51.body = some (Try.f51.body.getD .skip) := rfl

theorem vsame_C (a b : VV) (n L : Nat) (ha : FitsV a n L) (hb : FitsV b n L) (hn : n ≤ 1000000) (hL2 : L ≤ 1000000) : PureC Try.prog 51 [aV a, aV b] (.ret (aB (sameQ a b))) := by
  have he := equalf_C a b n L ha hb hn hL2
  refine pureC_of (rs := [(RV.tmp 4)]) Try.func51 (fun a w => Try.call51 a w) body51 cc51 (by kernel_rfl) ?_
  rw [Try.ntmps51]
  simp only [frs, Nat.reduceAdd, Nat.reduceSub]
  repeat (first | (with_reducible first | refine zw10 ?_ | refine zw1 ?_ | refine zw4 ?_ | refine zw18 ?_ | refine zw19 ?_ | refine zw11 ?_ | refine zw12 ?_ | refine zw14 ?_ | refine zw2 ?_ | refine zw5 ?_ | refine zw9 ?_ | refine zw13 ?_ | refine zw3 ?_ | refine zw6 ?_ | refine zw8 ?_ | refine zw15 ?_ | refine zw16 ?_ | refine zw17 ?_ | refine blk_o rfl ?_) | ((with_reducible first | refine zb1 mixed (fun K hK => ?_) | refine zb2 (fun K hK => ?_) | refine zb3 (fun K hK => ?_)); simp (disch := first | omega | (simp only [dls]; omega)) only [std, cev, cstep, St.ev, putT, AV.cells?, AV.int?, AV.bool?, AV.str?, readN, mkAV, putN, guardWant, bound, Value.oneCell', opO, putSt, reduceIte, reduceCtorEq, Int.reduceToNat, Nat.reduceAdd, Nat.reduceSub, Nat.reduceMul, Int.reduceAdd, Int.reduceSub, Int.reduceMul, Int.reduceNeg, fU]; subst hK) | refine zcA (he) rfl rfl rfl ?_)
  exact ⟨_, rfl, rfl⟩

abbrev aZero1 : AV := .one (.fn 112 [])
def zeroTo (a : VV) (k : Nat) : Bool := (List.range k).all fun i => decide (qAt a i = 0)
def zeroQ (a : VV) : Bool := zeroTo a (osl a).length
theorem zeroTo_succ (a : VV) (k : Nat) : zeroTo a (k + 1) = (zeroTo a k && decide (qAt a k = 0)) := by
  unfold zeroTo; rw [List.range_succ, List.all_append]; simp
theorem zeroTo_false {a : VV} {k m : Nat} (hk : k < m) (h : qAt a k ≠ 0) : zeroTo a m = false := by
  unfold zeroTo
  rw [List.all_eq_false]
  exact ⟨k, List.mem_range.2 hk, by simpa using h⟩

def firstNZ (a : VV) : Int := match (List.range (osl a).length).find? (fun i => !decide (qAt a i = 0)) with | some i => (i : Int) | none => -1
theorem firstNZ_none {a : VV} (h : zeroTo a (osl a).length = true) : firstNZ a = -1 := by
  unfold firstNZ
  have : (List.range (osl a).length).find? (fun i => !decide (qAt a i = 0)) = none := by
    rw [List.find?_eq_none]
    intro i hi
    have := List.all_eq_true.1 h i hi
    simpa using this
  rw [this]
theorem firstNZ_some {a : VV} {k : Nat} (hk : k < (osl a).length) (hz : zeroTo a k = true) (h : qAt a k ≠ 0) : firstNZ a = k := by
  unfold firstNZ
  have : (List.range (osl a).length).find? (fun i => !decide (qAt a i = 0)) = some k := by
    rw [List.find?_range_eq_some]
    refine ⟨by simpa using h, List.mem_range.2 hk, fun i hi => ?_⟩
    have := List.all_eq_true.1 hz i (List.mem_range.2 hi)
    simpa using this
  rw [this]

abbrev c163_k1 : CC := (CC.seq (CC.reg [⟨(some 4), none, (COp.mv (Operand.const (Value.int IntKind.i64 (-1))))⟩]) CC.ret)
abbrev c163_b1 : CC := (CC.seq (CC.reg [⟨(some 9), none, (COp.bin BinOp.lss (Operand.tmp 8) (Operand.tmp 7))⟩]) (CC.seq (CC.cond (Operand.tmp 9) CC.skip (CC.exit 0)) (CC.seq (CC.block 1 (CC.seq (CC.reg [⟨(some 10), none, (COp.mv (Operand.tmp 8))⟩, ⟨(some 5), none, (COp.mv (Operand.tmp 10))⟩]) (CC.seq (CC.reg [⟨(some 11), none, (COp.mv (Operand.tmp 1))⟩, ⟨(some 12), none, (COp.mv (Operand.tmp 0))⟩, ⟨(some 13), none, (COp.mv (Operand.tmp 5))⟩, ⟨(some 14), none, (COp.iaddr 3 none (Operand.tmp 12) (Operand.tmp 13))⟩, ⟨(some 15), none, (COp.load 3 true (Operand.tmp 14))⟩, ⟨(some 16), none, (COp.callf (Operand.tmp 11) [(Operand.tmp 15)])⟩]) (CC.cond (Operand.tmp 16) (CC.seq (CC.reg [⟨(some 17), none, (COp.mv (Operand.tmp 5))⟩, ⟨(some 4), none, (COp.mv (Operand.tmp 17))⟩]) CC.ret) CC.skip)))) (CC.reg [⟨(some 18), none, (COp.bin BinOp.add (Operand.tmp 8) (Operand.const (Value.int IntKind.i64 (1))))⟩, ⟨(some 8), none, (COp.mv (Operand.tmp 18))⟩]))))
abbrev c163 : CC := (CC.seq (CC.reg [⟨(some 4), none, (COp.mv (Operand.const (Value.int IntKind.i64 (0))))⟩]) (CC.seq (CC.seq (CC.reg [⟨(some 6), none, (COp.mv (Operand.tmp 0))⟩, ⟨(some 7), none, (COp.len false (Operand.tmp 6))⟩, ⟨(some 8), none, (COp.mv (Operand.const (Value.int IntKind.i64 (0))))⟩]) (CC.block 0 (CC.loop c163_b1))) c163_k1))
theorem cc163 : ccode Try.prog [] (Try.f163.body.getD .skip) = some c163 := by kernel_rfl
theorem body163 : Try.f163.body = some (Try.f163.body.getD .skip) := rfl

theorem indexf_C (a : VV) (n L : Nat) (ha : FitsV a n L) (hn : n ≤ 1000000) (hL2 : L ≤ 1000000) :
    PureC Try.prog 163 [aV a, aZero1] (.ret (aI (firstNZ a))) := by
  have ha1 := ha.1
  refine pureC_of (rs := [(RV.tmp 4)]) Try.func163 (fun a w => Try.call163 a w) body163 cc163 (by kernel_rfl) ?_
  rw [Try.ntmps163]
  simp only [frs, Nat.reduceAdd, Nat.reduceSub]
  repeat (first | (with_reducible first | refine zw10 ?_ | refine zw1 ?_ | refine zw4 ?_ | refine zw18 ?_ | refine zw19 ?_ | refine zw11 ?_ | refine zw12 ?_ | refine zw14 ?_ | refine zw2 ?_ | refine zw5 ?_ | refine zw9 ?_ | refine zw13 ?_ | refine zw3 ?_ | refine zw6 ?_ | refine zw8 ?_ | refine zw15 ?_ | refine zw16 ?_ | refine zw17 ?_ | refine blk_o rfl ?_) | ((with_reducible first | refine zb1 mixed (fun K hK => ?_) | refine zb2 (fun K hK => ?_) | refine zb3 (fun K hK => ?_)); simp (disch := first | omega | (simp only [dls]; omega)) only [std, cev, cstep, St.ev, putT, AV.cells?, AV.int?, AV.bool?, AV.str?, readN, mkAV, putN, guardWant, bound, Value.oneCell', opO, putSt, reduceIte, reduceCtorEq, Int.reduceToNat, Nat.reduceAdd, Nat.reduceSub, Nat.reduceMul, Int.reduceAdd, Int.reduceSub, Int.reduceMul, Int.reduceNeg, fU]; subst hK))
  refine awp_loop (fun (zz : Nat) => ⟨(aV a :: aZero1 :: .junk :: .junk :: aI 0 :: .junk :: aV a :: aI (osl a).length :: aI zz :: .junk :: .junk :: .junk :: .junk :: .junk :: .junk :: .junk :: .junk :: .junk :: .junk :: []), []⟩) (fun (zz : Nat) => zz ≤ (osl a).length ∧ zeroTo a zz = true) (fun (zz : Nat) => (osl a).length - zz) (0) ?hI1 (Fgt.head (Nat.le_refl _) [true, true, false, false, true, false, true, true, true] ?hT1 ?hH1) ?hB1
  case hT1 => first | (simp (disch := omega) only [hds, liveT, cleanAV, cleanCell, clean1, cleanBlk, reduceIte, Int.reduceSub, Int.reduceAdd, Int.reduceNeg]; done) | rfl
  case hH1 => first | (simp (disch := omega) only [hds, liveT, cleanAV, cleanCell, clean1, cleanBlk, reduceIte, Int.reduceSub, Int.reduceAdd, Int.reduceNeg]; done) | rfl
  · exact ⟨Nat.zero_le _, rfl⟩
  rintro i ⟨hi, hs⟩
  by_cases him : i = (osl a).length
  · repeat (first | (with_reducible first | refine zw10 ?_ | refine zw1 ?_ | refine zw4 ?_ | refine zw18 ?_ | refine zw19 ?_ | refine zw11 ?_ | refine zw12 ?_ | refine zw14 ?_ | refine zw2 ?_ | refine zw5 ?_ | refine zw9 ?_ | refine zw13 ?_ | refine zw3 ?_ | refine zw6 ?_ | refine zw8 ?_ | refine zw15 ?_ | refine zw16 ?_ | refine zw17 ?_ | refine blk_o rfl ?_) | ((with_reducible first | refine zb1 mixed (fun K hK => ?_) | refine zb2 (fun K hK => ?_) | refine zb3 (fun K hK => ?_)); simp (disch := first | omega | (simp only [dls]; omega)) only [std, cev, cstep, St.ev, putT, AV.cells?, AV.int?, AV.bool?, AV.str?, readN, mkAV, putN, guardWant, bound, Value.oneCell', opO, putSt, reduceIte, reduceCtorEq, Int.reduceToNat, Nat.reduceAdd, Nat.reduceSub, Nat.reduceMul, Int.reduceAdd, Int.reduceSub, Int.reduceMul, Int.reduceNeg, fU]; subst hK))
    rw [firstNZ_none (by rw [← him]; exact hs)]
    exact ⟨_, rfl, rfl⟩
  · have hlt : i < (osl a).length := by omega
    have hz := zero1_C (osl a)[i] ((ha.2 _ (List.getElem_mem hlt)).mono (by omega))
    rw [← rAt_in hlt] at hz
    change PureC _ _ _ (.ret (aB (!decide (qAt a i = 0)))) at hz
    rw [rAt_in hlt] at hz
    by_cases he : qAt a i = 0
    · rw [decide_eq_true he] at hz
      repeat (first | (with_reducible first | refine zw10 ?_ | refine zw1 ?_ | refine zw4 ?_ | refine zw18 ?_ | refine zw19 ?_ | refine zw11 ?_ | refine zw12 ?_ | refine zw14 ?_ | refine zw2 ?_ | refine zw5 ?_ | refine zw9 ?_ | refine zw13 ?_ | refine zw3 ?_ | refine zw6 ?_ | refine zw8 ?_ | refine zw15 ?_ | refine zw16 ?_ | refine zw17 ?_ | refine blk_o rfl ?_) | ((with_reducible first | refine zb1 mixed (fun K hK => ?_) | refine zb2 (fun K hK => ?_) | refine zb3 (fun K hK => ?_)); simp (disch := first | omega | (simp only [dls]; omega)) only [std, cev, cstep, St.ev, putT, AV.cells?, AV.int?, AV.bool?, AV.str?, readN, mkAV, putN, guardWant, bound, Value.oneCell', opO, putSt, reduceIte, reduceCtorEq, Int.reduceToNat, Nat.reduceAdd, Nat.reduceSub, Nat.reduceMul, Int.reduceAdd, Int.reduceSub, Int.reduceMul, Int.reduceNeg, fU, fR, Bool.not_true]; subst hK) | refine zcV (hz) rfl rfl rfl ?_)
      refine ⟨(i + 1), ?hI2, ?hM2, Fgt.head (Nat.le_refl _) [true, true, false, false, true, false, true, true, true] ?hT2 ?hH2⟩
      case hT2 => first | (simp (disch := omega) only [hds, liveT, cleanAV, cleanCell, clean1, cleanBlk, reduceIte, Int.reduceSub, Int.reduceAdd, Int.reduceNeg]; done) | rfl
      case hH2 => first | (simp (disch := omega) only [hds, liveT, cleanAV, cleanCell, clean1, cleanBlk, reduceIte, Int.reduceSub, Int.reduceAdd, Int.reduceNeg]; done) | rfl
      · exact ⟨Nat.succ_le_of_lt hlt, by rw [zeroTo_succ, hs, decide_eq_true he]; rfl⟩
      · show (osl a).length - (i + 1) < (osl a).length - i; omega
    · rw [decide_eq_false he] at hz
      repeat (first | (with_reducible first | refine zw10 ?_ | refine zw1 ?_ | refine zw4 ?_ | refine zw18 ?_ | refine zw19 ?_ | refine zw11 ?_ | refine zw12 ?_ | refine zw14 ?_ | refine zw2 ?_ | refine zw5 ?_ | refine zw9 ?_ | refine zw13 ?_ | refine zw3 ?_ | refine zw6 ?_ | refine zw8 ?_ | refine zw15 ?_ | refine zw16 ?_ | refine zw17 ?_ | refine blk_o rfl ?_) | ((with_reducible first | refine zb1 mixed (fun K hK => ?_) | refine zb2 (fun K hK => ?_) | refine zb3 (fun K hK => ?_)); simp (disch := first | omega | (simp only [dls]; omega)) only [std, cev, cstep, St.ev, putT, AV.cells?, AV.int?, AV.bool?, AV.str?, readN, mkAV, putN, guardWant, bound, Value.oneCell', opO, putSt, reduceIte, reduceCtorEq, Int.reduceToNat, Nat.reduceAdd, Nat.reduceSub, Nat.reduceMul, Int.reduceAdd, Int.reduceSub, Int.reduceMul, Int.reduceNeg, fU, fR, Bool.not_false]; subst hK) | refine zcV (hz) rfl rfl rfl ?_)
      rw [firstNZ_some hlt hs he]
      exact ⟨_, rfl, rfl⟩

end Go.Proofs.Ytdhkdnmefeeclaa
set_option linter.unusedSimpArgs false
set_option linter.unusedVariables false
set_option maxRecDepth 100000
set_option maxHeartbeats 4000000
namespace Go.Proofs.Ytdhkdnmefeeclaa
open Go Go.Am Go.Proofs Go.RowKit Go.Off

theorem firstNZ_zero (a : VV) : (decide (firstNZ a ≥ 0)) = !zeroQ a := by
  unfold zeroQ
  cases h : zeroTo a (osl a).length with
  | true => rw [firstNZ_none h]; rfl
  | false =>
    unfold firstNZ
    cases hf : (List.range (osl a).length).find? (fun i => !decide (qAt a i = 0)) with
    | none =>
      exfalso
      rw [List.find?_eq_none] at hf
      unfold zeroTo at h
      rw [List.all_eq_false] at h
      obtain ⟨x, hx, hn⟩ := h
      exact hf x hx (by simpa using hn)
    | some k => simp

abbrev c111 : CC := (CC.seq (CC.reg [⟨(some 4), none, (COp.mv (Operand.const (Value.bool false)))⟩]) (CC.seq (CC.reg [⟨(some 5), none, (COp.mv (Operand.tmp 0))⟩, ⟨(some 6), none, (COp.mv (Operand.tmp 1))⟩, ⟨(some 7), none, (COp.callf (Operand.func 163) [(Operand.tmp 5), (Operand.tmp 6)])⟩, ⟨(some 8), none, (COp.bin BinOp.geq (Operand.tmp 7) (Operand.const (Value.int IntKind.i64 (0))))⟩, ⟨(some 4), none, (COp.mv (Operand.tmp 8))⟩]) CC.ret))
theorem cc111 : ccode Try.prog [] (Try.f111.body.getD .skip) = some c111 := by kernel_rfl
theorem body111 : Try.f111.body = some (Try.f111.body.getD .skip) := rfl

theorem containsf_C (a : VV) (n L : Nat) (ha : FitsV a n L) (hn : n ≤ 1000000) (hL2 : L ≤ 1000000) :
    PureC Try.prog 111 [aV a, aZero1] (.ret (aB (!zeroQ a))) := by
  have hx := indexf_C a n L ha hn hL2
  rw [← firstNZ_zero]
  refine pureC_of (rs := [(RV.tmp 4)]) Try.func111 (fun a w => Try.call111 a w) body111 cc111 (by kernel_rfl) ?_
  rw [Try.ntmps111]
  simp only [frs, Nat.reduceAdd, Nat.reduceSub]
  repeat (first | (with_reducible first | refine zw10 ?_ | refine zw1 ?_ | refine zw4 ?_ | refine zw18 ?_ | refine zw19 ?_ | refine zw11 ?_ | refine zw12 ?_ | refine zw14 ?_ | refine zw2 ?_ | refine zw5 ?_ | refine zw9 ?_ | refine zw13 ?_ | refine zw3 ?_ | refine zw6 ?_ | refine zw8 ?_ | refine zw15 ?_ | refine zw16 ?_ | refine zw17 ?_ | refine blk_o rfl ?_) | ((with_reducible first | refine zb1 mixed (fun K hK => ?_) | refine zb2 (fun K hK => ?_) | refine zb3 (fun K hK => ?_)); simp (disch := first | omega | (simp only [dls]; omega)) only [std, cev, cstep, St.ev, putT, AV.cells?, AV.int?, AV.bool?, AV.str?, readN, mkAV, putN, guardWant, bound, Value.oneCell', opO, putSt, reduceIte, reduceCtorEq, Int.reduceToNat, Nat.reduceAdd, Nat.reduceSub, Nat.reduceMul, Int.reduceAdd, Int.reduceSub, Int.reduceMul, Int.reduceNeg, fU]; subst hK) | refine zcA (hx) rfl rfl rfl ?_)
  exact ⟨_, rfl, rfl⟩

abbrev c52 : CC := (CC.seq (CC.reg [⟨(some 2), none, (COp.mv (Operand.const (Value.bool false)))⟩]) (CC.seq (CC.reg [⟨(some 3), none, (COp.mv (Operand.tmp 0))⟩, ⟨(some 4), none, (COp.callf (Operand.func 111) [(Operand.tmp 3), (Operand.func 112)])⟩, ⟨(some 5), none, (COp.un UnOp.not (Operand.tmp 4))⟩, ⟨(some 2), none, (COp.mv (Operand.tmp 5))⟩]) CC.ret))
theorem cc52 : ccode Try.prog [] (Try.f52.body.getD .skip) = some c52 := by kernel_rfl
theorem body52 : Try.f52.body = some (Try.f52.body.getD .skip) := rfl

theorem vzero_C (a : VV) (n L : Nat) (ha : FitsV a n L) (hn : n ≤ 1000000) (hL2 : L ≤ 1000000) : PureC Try.prog 52 [aV a] (.ret (aB (zeroQ a))) := by
  have hx := containsf_C a n L ha hn hL2
  have hb : zeroQ a = !!zeroQ a := by simp
  rw [hb]
  refine pureC_of (rs := [(RV.tmp 2)]) Try.func52 (fun a w => Try.call52 a w) body52 cc52 (by kernel_rfl) ?_
  rw [Try.ntmps52]
  simp only [frs, Nat.reduceAdd, Nat.reduceSub]
  repeat (first | (with_reducible first | refine zw10 ?_ | refine zw1 ?_ | refine zw4 ?_ | refine zw18 ?_ | refine zw19 ?_ | refine zw11 ?_ | refine zw12 ?_ | refine zw14 ?_ | refine zw2 ?_ | refine zw5 ?_ | refine zw9 ?_ | refine zw13 ?_ | refine zw3 ?_ | refine zw6 ?_ | refine zw8 ?_ | refine zw15 ?_ | refine zw16 ?_ | refine zw17 ?_ | refine blk_o rfl ?_) | ((with_reducible first | refine zb1 mixed (fun K hK => ?_) | refine zb2 (fun K hK => ?_) | refine zb3 (fun K hK => ?_)); simp (disch := first | omega | (simp only [dls]; omega)) only [std, cev, cstep, St.ev, putT, AV.cells?, AV.int?, AV.bool?, AV.str?, readN, mkAV, putN, guardWant, bound, Value.oneCell', opO, putSt, reduceIte, reduceCtorEq, Int.reduceToNat, Nat.reduceAdd, Nat.reduceSub, Nat.reduceMul, Int.reduceAdd, Int.reduceSub, Int.reduceMul, Int.reduceNeg, fU]; subst hK) | refine zcA (hx) rfl rfl rfl ?_)
  exact ⟨_, rfl, rfl⟩

end Go.Proofs.Ytdhkdnmefeeclaa
set_option linter.unusedSimpArgs false
set_option linter.unusedVariables false
set_option maxRecDepth 100000
set_option maxHeartbeats 4000000
namespace Go.Proofs.Ytdhkdnmefeeclaa
open Go Go.Am Go.Proofs Go.RowKit Go.Off

def fS (s : List UInt8) : List CV := [.str s]
theorem encB_snoc_str (l : List (List UInt8)) (r : List UInt8) : encB fS l ++ [[Cell.c (.str r)]] = encB fS (l ++ [r]) := by simp [encB, fS]
def textsQ (a : VV) : List (List UInt8) := (osl a).map fun r => textQ r.val

abbrev c49_k1 : CC := (CC.seq (CC.reg [⟨(some 18), none, (COp.mv (Operand.tmp 3))⟩, ⟨(some 2), none, (COp.mv (Operand.tmp 18))⟩]) CC.ret)
abbrev c49_b1 : CC := (CC.seq (CC.reg [⟨(some 9), none, (COp.bin BinOp.lss (Operand.tmp 8) (Operand.tmp 7))⟩]) (CC.seq (CC.cond (Operand.tmp 9) CC.skip (CC.exit 0)) (CC.seq (CC.block 1 (CC.seq (CC.reg [⟨(some 10), none, (COp.iaddr 3 none (Operand.tmp 6) (Operand.tmp 8))⟩, ⟨(some 11), none, (COp.load 3 true (Operand.tmp 10))⟩, ⟨(some 5), none, (COp.new 40 [(Value.bool false), (Value.slice none 0 0), (Value.slice none 0 0)])⟩, ⟨none, none, (COp.store 3 (Operand.tmp 5) (Operand.tmp 11))⟩]) (CC.reg [⟨(some 12), none, (COp.mv (Operand.tmp 3))⟩, ⟨(some 13), none, (COp.load 3 true (Operand.tmp 5))⟩, ⟨(some 14), none, (COp.callf (Operand.func 90) [(Operand.tmp 13)])⟩, ⟨(some 15), none, (COp.mkrow 9 1 [(Operand.tmp 14)])⟩, ⟨(some 16), none, (COp.append 9 1 16 (Operand.tmp 12) (Operand.tmp 15))⟩, ⟨(some 3), none, (COp.mv (Operand.tmp 16))⟩]))) (CC.reg [⟨(some 17), none, (COp.bin BinOp.add (Operand.tmp 8) (Operand.const (Value.int IntKind.i64 (1))))⟩, ⟨(some 8), none, (COp.mv (Operand.tmp 17))⟩]))))
abbrev c49 : CC := (CC.seq (CC.reg [⟨(some 2), none, (COp.mv (Operand.const (Value.slice none 0 0)))⟩]) (CC.seq (CC.reg [⟨(some 3), none, (COp.mv (Operand.const (Value.slice none 0 0)))⟩]) (CC.seq (CC.seq (CC.reg [⟨(some 6), none, (COp.mv (Operand.tmp 0))⟩, ⟨(some 7), none, (COp.len false (Operand.tmp 6))⟩, ⟨(some 8), none, (COp.mv (Operand.const (Value.int IntKind.i64 (0))))⟩]) (CC.block 0 (CC.loop c49_b1))) c49_k1)))
theorem cc49 : ccode Try.prog [] (Try.f49.body.getD .skip) = some c49 := by kernel_rfl
theorem body49 : Try.f49.body = some (Try.f49.body.getD .skip) := rfl

theorem vtexts_C (a : VV) (n L : Nat) (ha : FitsV a n L) (hn : n ≤ 1000000) (hL2 : L ≤ 1000000) :
    PureC Try.prog 49 [aV a] (.fresh 9 1 ((textsQ a).map fS) (!(textsQ a).isEmpty)) := by
  have ha1 := ha.1
  refine pureC_of (rs := [(RV.tmp 2)]) Try.func49 (fun a w => Try.call49 a w) body49 cc49 (by kernel_rfl) ?_
  rw [Try.ntmps49]
  simp only [frs, Nat.reduceAdd, Nat.reduceSub]
  repeat (first | (with_reducible first | refine zw10 ?_ | refine zw1 ?_ | refine zw4 ?_ | refine zw18 ?_ | refine zw19 ?_ | refine zw11 ?_ | refine zw12 ?_ | refine zw14 ?_ | refine zw2 ?_ | refine zw5 ?_ | refine zw9 ?_ | refine zw13 ?_ | refine zw3 ?_ | refine zw6 ?_ | refine zw8 ?_ | refine zw15 ?_ | refine zw16 ?_ | refine zw17 ?_ | refine blk_o rfl ?_) | ((with_reducible first | refine zb1 mixed (fun K hK => ?_) | refine zb2 (fun K hK => ?_) | refine zb3 (fun K hK => ?_)); simp (disch := first | omega | (simp only [dls]; omega)) only [std, cev, cstep, St.ev, putT, AV.cells?, AV.int?, AV.bool?, AV.str?, readN, mkAV, putN, guardWant, bound, Value.oneCell', opO, putSt, reduceIte, reduceCtorEq, Int.reduceToNat, Nat.reduceAdd, Nat.reduceSub, Nat.reduceMul, Int.reduceAdd, Int.reduceSub, Int.reduceMul, Int.reduceNeg, fU]; subst hK))
  refine AWp.fgt ?_ (Fgt.openNil (i := 3) rfl 9 1)
  simp only [List.set_cons_succ, List.set_cons_zero, List.length_nil, List.length_cons, List.nil_append, List.cons_append, Nat.reduceAdd]
  refine awp_loop (fun (zz : Nat × (List (List UInt8)) × Nat × Bool) => ⟨(aV a :: .junk :: .one (.c (.val (.slice none 0 0))) :: .one (.own 0 zz.2.2.1) :: .junk :: .junk :: aV a :: aI (osl a).length :: aI zz.1 :: .junk :: .junk :: .junk :: .junk :: .junk :: .junk :: .junk :: .junk :: .junk :: .junk :: []), [⟨zz.2.2.1, 9, 1, encB fS zz.2.1, true, zz.2.2.2⟩]⟩) (fun (zz : Nat × (List (List UInt8)) × Nat × Bool) => zz.1 ≤ (osl a).length ∧ zz.2.1 = ((osl a).take zz.1).map (fun r => textQ r.val) ∧ zz.2.2.2 = !zz.2.1.isEmpty) (fun (zz : Nat × (List (List UInt8)) × Nat × Bool) => (osl a).length - zz.1) (0, [], 0, false) ?hI1 (Fgt.head (Nat.zero_le 1) [true, false, true, true, false, false, true, true, true] ?hT1 ?hH1) ?hB1
  case hT1 => first | (simp (disch := omega) only [hds, liveT, cleanAV, cleanCell, clean1, cleanBlk, reduceIte, Int.reduceSub, Int.reduceAdd, Int.reduceNeg, encB_nil]; done) | rfl
  case hH1 => first | (simp (disch := omega) only [hds, liveT, cleanAV, cleanCell, clean1, cleanBlk, reduceIte, Int.reduceSub, Int.reduceAdd, Int.reduceNeg, encB_nil]; done) | rfl
  · dsimp only; exact ⟨by omega, rfl, rfl⟩
  rintro ⟨i, out, v, nn⟩ ⟨hi, ho, hnn⟩
  dsimp only at hi ho hnn
  by_cases him : i = (osl a).length
  · repeat (first | (with_reducible first | refine zw10 ?_ | refine zw1 ?_ | refine zw4 ?_ | refine zw18 ?_ | refine zw19 ?_ | refine zw11 ?_ | refine zw12 ?_ | refine zw14 ?_ | refine zw2 ?_ | refine zw5 ?_ | refine zw9 ?_ | refine zw13 ?_ | refine zw3 ?_ | refine zw6 ?_ | refine zw8 ?_ | refine zw15 ?_ | refine zw16 ?_ | refine zw17 ?_ | refine blk_o rfl ?_) | ((with_reducible first | refine zb1 mixed (fun K hK => ?_) | refine zb2 (fun K hK => ?_) | refine zb3 (fun K hK => ?_)); simp (disch := first | omega | (simp only [dls]; omega)) only [std, cev, cstep, St.ev, putT, AV.cells?, AV.int?, AV.bool?, AV.str?, readN, mkAV, putN, guardWant, bound, Value.oneCell', opO, putSt, reduceIte, reduceCtorEq, Int.reduceToNat, Nat.reduceAdd, Nat.reduceSub, Nat.reduceMul, Int.reduceAdd, Int.reduceSub, Int.reduceMul, Int.reduceNeg, fU]; subst hK))
    refine ⟨_, rfl, ?_⟩
    rw [him, List.take_length] at ho
    have he : (!(textsQ a).isEmpty) = nn := by rw [hnn, ho]; rfl
    rw [he, show textsQ a = out from ho.symm]
    exact Ends.fresh_enc rfl
  · have hlt : i < (osl a).length := by omega
    have hmu := rtext_C (osl a)[i] ((ha.2 _ (List.getElem_mem hlt)).mono (by omega))
    have hol : out.length = i := by rw [ho, List.length_map, List.length_take]; omega
    repeat (first | (with_reducible first | refine zw10 ?_ | refine zw1 ?_ | refine zw4 ?_ | refine zw18 ?_ | refine zw19 ?_ | refine zw11 ?_ | refine zw12 ?_ | refine zw14 ?_ | refine zw2 ?_ | refine zw5 ?_ | refine zw9 ?_ | refine zw13 ?_ | refine zw3 ?_ | refine zw6 ?_ | refine zw8 ?_ | refine zw15 ?_ | refine zw16 ?_ | refine zw17 ?_ | refine blk_o rfl ?_) | ((with_reducible first | refine zb1 mixed (fun K hK => ?_) | refine zb2 (fun K hK => ?_) | refine zb3 (fun K hK => ?_)); simp (disch := first | omega | (simp only [dls]; omega)) only [std, cev, cstep, St.ev, putT, AV.cells?, AV.int?, AV.bool?, AV.str?, readN, mkAV, putN, guardWant, bound, Value.oneCell', opO, putSt, reduceIte, reduceCtorEq, Int.reduceToNat, Nat.reduceAdd, Nat.reduceSub, Nat.reduceMul, Int.reduceAdd, Int.reduceSub, Int.reduceMul, Int.reduceNeg, fU, fR]; subst hK) | refine zcA (hmu) rfl rfl rfl ?_)
    refine ⟨(i + 1, out ++ [textQ (osl a)[i].val], v + 1, true), ?hI2, ?hM2, Fgt.head (Nat.zero_le 1) [true, false, true, true, false, false, true, true, true] ?hT2 ?hH2⟩
    case hT2 => first | (simp (disch := omega) only [hds, liveT, cleanAV, cleanCell, clean1, cleanBlk, reduceIte, Int.reduceSub, Int.reduceAdd, Int.reduceNeg, encB_snoc_str, List.isEmpty_cons, Bool.or_true, Bool.not_false]; done) | rfl
    case hH2 => first | (simp (disch := omega) only [hds, liveT, cleanAV, cleanCell, clean1, cleanBlk, reduceIte, Int.reduceSub, Int.reduceAdd, Int.reduceNeg, encB_snoc_str, List.isEmpty_cons, Bool.or_true, Bool.not_false]; done) | rfl
    · dsimp only
      refine ⟨by omega, ?_, by simp⟩
      rw [ho, List.take_succ_eq_append_getElem hlt, List.map_append]
      rfl
    · dsimp only; omega

end Go.Proofs.Ytdhkdnmefeeclaa
set_option linter.unusedSimpArgs false
set_option linter.unusedVariables false
set_option maxRecDepth 100000
set_option maxHeartbeats 4000000
namespace Go.Proofs.Ytdhkdnmefeeclaa
open Go Go.Am Go.Proofs Go.RowKit Go.Off

/-- A term of a sparse row. -/
structure TT where
  at' : Int
  v : RR
def fT (t : TT) : List CV := [.val (.int .i64 t.at'), .val (.bool t.v.minus), nr t.v.size, nr t.v.den]
abbrev TV := Option (List TT)
abbrev aT (a : TV) : AV := .one (.c (encSl 4 fT a))
def zT : TT := ⟨0, zR⟩
def tAt (a : TV) (i : Nat) : TT := (osl a).getD i zT
theorem tAt_in {a : TV} {i : Nat} (h : i < (osl a).length) : tAt a i = (osl a)[i] := by
  simp only [tAt, List.getD_eq_getElem?_getD]; rw [List.getElem?_eq_getElem h]; rfl
def FitsT (a : TV) (n L : Nat) : Prop := (osl a).length ≤ n ∧ ∀ t ∈ osl a, Fits t.v L
def okT (a : TV) (i : Nat) : Bool := decide (0 ≤ (tAt a i).at') && (decide (i = 0) || decide ((tAt a (i - 1)).at' < (tAt a i).at')) && !decide ((tAt a i).v.val = 0)
def rightTo (a : TV) (k : Nat) : Bool := (List.range k).all (okT a)
def rightQ (a : TV) : Bool := rightTo a (osl a).length
theorem rightTo_succ (a : TV) (k : Nat) : rightTo a (k + 1) = (rightTo a k && okT a k) := by
  unfold rightTo; rw [List.range_succ, List.all_append]; simp
theorem rightTo_false {a : TV} {k m : Nat} (hk : k < m) (h : okT a k = false) : rightTo a m = false := by
  unfold rightTo
  rw [List.all_eq_false]
  exact ⟨k, List.mem_range.2 hk, by simpa using h⟩

abbrev c30_k1 : CC := (CC.seq (CC.reg [⟨(some 2), none, (COp.mv (Operand.const (Value.bool true)))⟩]) CC.ret)
abbrev c30_b1 : CC := (CC.seq (CC.reg [⟨(some 8), none, (COp.bin BinOp.lss (Operand.tmp 7) (Operand.tmp 6))⟩]) (CC.seq (CC.cond (Operand.tmp 8) CC.skip (CC.exit 0)) (CC.seq (CC.block 1 (CC.seq (CC.reg [⟨(some 9), none, (COp.mv (Operand.tmp 7))⟩, ⟨(some 10), none, (COp.iaddr 4 none (Operand.tmp 5) (Operand.tmp 7))⟩, ⟨(some 11), none, (COp.load 4 true (Operand.tmp 10))⟩, ⟨(some 4), none, (COp.new 42 [(Value.int IntKind.i64 (0)), (Value.bool false), (Value.slice none 0 0), (Value.slice none 0 0)])⟩, ⟨(some 3), none, (COp.mv (Operand.tmp 9))⟩, ⟨none, none, (COp.store 4 (Operand.tmp 4) (Operand.tmp 11))⟩]) (CC.seq (CC.reg [⟨(some 12), none, (COp.faddr 0 (Operand.tmp 4))⟩, ⟨(some 13), none, (COp.load 1 false (Operand.tmp 12))⟩, ⟨(some 14), none, (COp.bin BinOp.lss (Operand.tmp 13) (Operand.const (Value.int IntKind.i64 (0))))⟩, ⟨(some 15), none, (COp.mv (Operand.tmp 14))⟩, ⟨(some 16), (some (15, false)), (COp.mv (Operand.tmp 3))⟩, ⟨(some 17), (some (15, false)), (COp.bin BinOp.gtr (Operand.tmp 16) (Operand.const (Value.int IntKind.i64 (0))))⟩, ⟨(some 18), (some (15, false)), (COp.mv (Operand.tmp 17))⟩, ⟨(some 19), (some (18, true)), (COp.faddr 0 (Operand.tmp 4))⟩, ⟨(some 20), (some (18, true)), (COp.load 1 false (Operand.tmp 19))⟩, ⟨(some 21), (some (18, true)), (COp.mv (Operand.tmp 0))⟩, ⟨(some 22), (some (18, true)), (COp.mv (Operand.tmp 3))⟩, ⟨(some 23), (some (18, true)), (COp.bin BinOp.sub (Operand.tmp 22) (Operand.const (Value.int IntKind.i64 (1))))⟩, ⟨(some 24), (some (18, true)), (COp.iaddr 4 none (Operand.tmp 21) (Operand.tmp 23))⟩, ⟨(some 25), (some (18, true)), (COp.faddr 0 (Operand.tmp 24))⟩, ⟨(some 26), (some (18, true)), (COp.load 1 false (Operand.tmp 25))⟩, ⟨(some 27), (some (18, true)), (COp.bin BinOp.leq (Operand.tmp 20) (Operand.tmp 26))⟩, ⟨(some 28), (some (15, false)), (COp.pick (Operand.tmp 18) (Operand.tmp 27) (Operand.const (Value.bool false)))⟩, ⟨(some 29), none, (COp.pick (Operand.tmp 15) (Operand.const (Value.bool true)) (Operand.tmp 28))⟩, ⟨(some 30), none, (COp.mv (Operand.tmp 29))⟩, ⟨(some 31), (some (30, false)), (COp.faddr 1 (Operand.tmp 4))⟩, ⟨(some 32), (some (30, false)), (COp.load 3 true (Operand.tmp 31))⟩, ⟨(some 33), (some (30, false)), (COp.callf (Operand.func 33) [(Operand.tmp 32)])⟩, ⟨(some 34), (some (30, false)), (COp.bin BinOp.eql (Operand.tmp 33) (Operand.const (Value.int IntKind.i64 (0))))⟩, ⟨(some 35), none, (COp.pick (Operand.tmp 30) (Operand.const (Value.bool true)) (Operand.tmp 34))⟩]) (CC.cond (Operand.tmp 35) (CC.seq (CC.reg [⟨(some 2), none, (COp.mv (Operand.const (Value.bool false)))⟩]) CC.ret) CC.skip)))) (CC.reg [⟨(some 36), none, (COp.bin BinOp.add (Operand.tmp 7) (Operand.const (Value.int IntKind.i64 (1))))⟩, ⟨(some 7), none, (COp.mv (Operand.tmp 36))⟩]))))
abbrev c30 : CC := (CC.seq (CC.reg [⟨(some 2), none, (COp.mv (Operand.const (Value.bool false)))⟩]) (CC.seq (CC.seq (CC.reg [⟨(some 5), none, (COp.mv (Operand.tmp 0))⟩, ⟨(some 6), none, (COp.len false (Operand.tmp 5))⟩, ⟨(some 7), none, (COp.mv (Operand.const (Value.int IntKind.i64 (0))))⟩]) (CC.block 0 (CC.loop c30_b1))) c30_k1))
theorem cc30 : ccode Try.prog [] (Try.f30.body.getD .skip) = some c30 := by kernel_rfl
theorem body30 : Try.f30.body = some (Try.f30.body.getD .skip) := rfl

theorem vright_C (a : TV) (n L : Nat) (ha : FitsT a n L) (hn : n ≤ 1000000) (hL2 : L ≤ 1000000) : PureC Try.prog 30 [aT a] (.ret (aB (rightQ a))) := by
  have ha1 := ha.1
  unfold rightQ
  refine pureC_of (rs := [(RV.tmp 2)]) Try.func30 (fun a w => Try.call30 a w) body30 cc30 (by kernel_rfl) ?_
  rw [Try.ntmps30]
  simp only [frs, Nat.reduceAdd, Nat.reduceSub]
  repeat (first | (with_reducible first | refine zw10 ?_ | refine zw1 ?_ | refine zw4 ?_ | refine zw18 ?_ | refine zw19 ?_ | refine zw11 ?_ | refine zw12 ?_ | refine zw14 ?_ | refine zw2 ?_ | refine zw5 ?_ | refine zw9 ?_ | refine zw13 ?_ | refine zw3 ?_ | refine zw6 ?_ | refine zw8 ?_ | refine zw15 ?_ | refine zw16 ?_ | refine zw17 ?_ | refine blk_o rfl ?_) | ((with_reducible first | refine zb1 mixed (fun K hK => ?_) | refine zb2 (fun K hK => ?_) | refine zb3 (fun K hK => ?_)); simp (disch := first | omega | (simp only [dls]; omega)) only [std, cev, cstep, St.ev, putT, AV.cells?, AV.int?, AV.bool?, AV.str?, readN, mkAV, putN, guardWant, bound, Value.oneCell', opO, putSt, reduceIte, reduceCtorEq, Int.reduceToNat, Nat.reduceAdd, Nat.reduceSub, Nat.reduceMul, Int.reduceAdd, Int.reduceSub, Int.reduceMul, Int.reduceNeg, fU]; subst hK))
  refine awp_loop (fun (zz : Nat) => ⟨(aT a :: .junk :: aB false :: .junk :: .junk :: aT a :: aI (osl a).length :: aI zz :: .junk :: .junk :: .junk :: .junk :: .junk :: .junk :: .junk :: .junk :: .junk :: .junk :: .junk :: .junk :: .junk :: .junk :: .junk :: .junk :: .junk :: .junk :: .junk :: .junk :: .junk :: .junk :: .junk :: .junk :: .junk :: .junk :: .junk :: .junk :: .junk :: []), []⟩) (fun (zz : Nat) => zz ≤ (osl a).length ∧ rightTo a zz = true) (fun (zz : Nat) => (osl a).length - zz) (0) ?hI1 (Fgt.head (Nat.le_refl _) [true, false, true, false, false, true, true, true] ?hT1 ?hH1) ?hB1
  case hT1 => first | (simp (disch := omega) only [hds, liveT, cleanAV, cleanCell, clean1, cleanBlk, reduceIte, Int.reduceSub, Int.reduceAdd, Int.reduceNeg]; done) | rfl
  case hH1 => first | (simp (disch := omega) only [hds, liveT, cleanAV, cleanCell, clean1, cleanBlk, reduceIte, Int.reduceSub, Int.reduceAdd, Int.reduceNeg]; done) | rfl
  · exact ⟨Nat.zero_le _, rfl⟩
  rintro i ⟨hi, hs⟩
  by_cases him : i = (osl a).length
  · repeat (first | (with_reducible first | refine zw10 ?_ | refine zw1 ?_ | refine zw4 ?_ | refine zw18 ?_ | refine zw19 ?_ | refine zw11 ?_ | refine zw12 ?_ | refine zw14 ?_ | refine zw2 ?_ | refine zw5 ?_ | refine zw9 ?_ | refine zw13 ?_ | refine zw3 ?_ | refine zw6 ?_ | refine zw8 ?_ | refine zw15 ?_ | refine zw16 ?_ | refine zw17 ?_ | refine blk_o rfl ?_) | ((with_reducible first | refine zb1 mixed (fun K hK => ?_) | refine zb2 (fun K hK => ?_) | refine zb3 (fun K hK => ?_)); simp (disch := first | omega | (simp only [dls]; omega)) only [std, cev, cstep, St.ev, putT, AV.cells?, AV.int?, AV.bool?, AV.str?, readN, mkAV, putN, guardWant, bound, Value.oneCell', opO, putSt, reduceIte, reduceCtorEq, Int.reduceToNat, Nat.reduceAdd, Nat.reduceSub, Nat.reduceMul, Int.reduceAdd, Int.reduceSub, Int.reduceMul, Int.reduceNeg, fU]; subst hK))
    rw [← him, hs]
    exact ⟨_, rfl, rfl⟩
  · have hlt : i < (osl a).length := by omega
    have hz := rsign_C (osl a)[i].v ((ha.2 _ (List.getElem_mem hlt)).mono (by omega))
    have hg := (sgn_zero_iff (osl a)[i].v.top).trans (top_zero (osl a)[i].v)
    have hok : okT a i = (decide (0 ≤ (osl a)[i].at') && (decide (i = 0) || decide ((tAt a (i - 1)).at' < (osl a)[i].at')) && !decide ((osl a)[i].v.val = 0)) := by unfold okT; rw [tAt_in hlt]
    by_cases h1 : (osl a)[i].at' < 0
    · rw [rightTo_false hlt (by rw [hok, decide_eq_false (by omega)]; rfl)]
      repeat (first | (with_reducible first | refine zw10 ?_ | refine zw1 ?_ | refine zw4 ?_ | refine zw18 ?_ | refine zw19 ?_ | refine zw11 ?_ | refine zw12 ?_ | refine zw14 ?_ | refine zw2 ?_ | refine zw5 ?_ | refine zw9 ?_ | refine zw13 ?_ | refine zw3 ?_ | refine zw6 ?_ | refine zw8 ?_ | refine zw15 ?_ | refine zw16 ?_ | refine zw17 ?_ | refine blk_o rfl ?_) | ((with_reducible first | refine zb1 mixed (fun K hK => ?_) | refine zb2 (fun K hK => ?_) | refine zb3 (fun K hK => ?_)); simp (disch := first | omega | (simp only [dls]; omega)) only [std, cev, cstep, St.ev, putT, AV.cells?, AV.int?, AV.bool?, AV.str?, readN, mkAV, putN, guardWant, bound, Value.oneCell', opO, putSt, reduceIte, reduceCtorEq, Int.reduceToNat, Nat.reduceAdd, Nat.reduceSub, Nat.reduceMul, Int.reduceAdd, Int.reduceSub, Int.reduceMul, Int.reduceNeg, fU, fT]; subst hK))
      exact ⟨_, rfl, rfl⟩
    · by_cases h0 : i = 0
      · by_cases hv : (osl a)[i].v.val = 0
        · rw [rightTo_false hlt (by rw [hok, decide_eq_true hv]; simp)]
          rw [hg.2 hv] at hz
          repeat (first | (with_reducible first | refine zw10 ?_ | refine zw1 ?_ | refine zw4 ?_ | refine zw18 ?_ | refine zw19 ?_ | refine zw11 ?_ | refine zw12 ?_ | refine zw14 ?_ | refine zw2 ?_ | refine zw5 ?_ | refine zw9 ?_ | refine zw13 ?_ | refine zw3 ?_ | refine zw6 ?_ | refine zw8 ?_ | refine zw15 ?_ | refine zw16 ?_ | refine zw17 ?_ | refine blk_o rfl ?_) | ((with_reducible first | refine zb1 mixed (fun K hK => ?_) | refine zb2 (fun K hK => ?_) | refine zb3 (fun K hK => ?_)); simp (disch := first | omega | (simp only [dls]; omega)) only [std, cev, cstep, St.ev, putT, AV.cells?, AV.int?, AV.bool?, AV.str?, readN, mkAV, putN, guardWant, bound, Value.oneCell', opO, putSt, reduceIte, reduceCtorEq, Int.reduceToNat, Nat.reduceAdd, Nat.reduceSub, Nat.reduceMul, Int.reduceAdd, Int.reduceSub, Int.reduceMul, Int.reduceNeg, fU, fT]; subst hK) | (apply call_any_g (hz) rfl; (case hg => simp (disch := first | omega | (simp only [dls]; omega)) only [std, cev, cstep, St.ev, putT, AV.cells?, AV.int?, AV.bool?, AV.str?, readN, mkAV, putN, guardWant, bound, Value.oneCell', opO, putSt, reduceIte, reduceCtorEq, Int.reduceToNat, Nat.reduceAdd, Nat.reduceSub, Nat.reduceMul, Int.reduceAdd, Int.reduceSub, Int.reduceMul, Int.reduceNeg, fU, fT]); (case hcl => (simp only [evs, St.ev, constAV, evl]; (repeat (first | exact closeAVs_nil | (apply closeAVs_cons; (first | (apply close_own3; rfl) | rfl)))); done)); (case hu => rfl)))
          exact ⟨_, rfl, rfl⟩
        · have hne := fun e => hv (hg.1 e)
          generalize sgn (osl a)[i].v.top = sg at hz hne
          repeat (first | (with_reducible first | refine zw10 ?_ | refine zw1 ?_ | refine zw4 ?_ | refine zw18 ?_ | refine zw19 ?_ | refine zw11 ?_ | refine zw12 ?_ | refine zw14 ?_ | refine zw2 ?_ | refine zw5 ?_ | refine zw9 ?_ | refine zw13 ?_ | refine zw3 ?_ | refine zw6 ?_ | refine zw8 ?_ | refine zw15 ?_ | refine zw16 ?_ | refine zw17 ?_ | refine blk_o rfl ?_) | ((with_reducible first | refine zb1 mixed (fun K hK => ?_) | refine zb2 (fun K hK => ?_) | refine zb3 (fun K hK => ?_)); simp (disch := first | omega | (simp only [dls]; omega)) only [std, cev, cstep, St.ev, putT, AV.cells?, AV.int?, AV.bool?, AV.str?, readN, mkAV, putN, guardWant, bound, Value.oneCell', opO, putSt, reduceIte, reduceCtorEq, Int.reduceToNat, Nat.reduceAdd, Nat.reduceSub, Nat.reduceMul, Int.reduceAdd, Int.reduceSub, Int.reduceMul, Int.reduceNeg, fU, fT]; subst hK) | (apply call_any_g (hz) rfl; (case hg => simp (disch := first | omega | (simp only [dls]; omega)) only [std, cev, cstep, St.ev, putT, AV.cells?, AV.int?, AV.bool?, AV.str?, readN, mkAV, putN, guardWant, bound, Value.oneCell', opO, putSt, reduceIte, reduceCtorEq, Int.reduceToNat, Nat.reduceAdd, Nat.reduceSub, Nat.reduceMul, Int.reduceAdd, Int.reduceSub, Int.reduceMul, Int.reduceNeg, fU, fT]); (case hcl => (simp only [evs, St.ev, constAV, evl]; (repeat (first | exact closeAVs_nil | (apply closeAVs_cons; (first | (apply close_own3; rfl) | rfl)))); done)); (case hu => rfl)))
          refine ⟨(i + 1), ?hI2, ?hM2, Fgt.head (Nat.le_refl _) [true, false, true, false, false, true, true, true] ?hT2 ?hH2⟩
          case hT2 => first | (simp (disch := omega) only [hds, liveT, cleanAV, cleanCell, clean1, cleanBlk, reduceIte, Int.reduceSub, Int.reduceAdd, Int.reduceNeg]; done) | rfl
          case hH2 => first | (simp (disch := omega) only [hds, liveT, cleanAV, cleanCell, clean1, cleanBlk, reduceIte, Int.reduceSub, Int.reduceAdd, Int.reduceNeg]; done) | rfl
          · exact ⟨Nat.succ_le_of_lt hlt, by rw [rightTo_succ, hs, hok, decide_eq_false hv, decide_eq_true h0, decide_eq_true (by omega)]; rfl⟩
          · show (osl a).length - (i + 1) < (osl a).length - i; omega
      · have hpl : i - 1 < (osl a).length := by omega
        have hpi : ((i : Int) - 1).toNat = i - 1 := by omega
        rw [tAt_in hpl] at hok
        by_cases h2 : (osl a)[i].at' ≤ (osl a)[i - 1].at'
        · rw [rightTo_false hlt (by rw [hok, decide_eq_false h0, decide_eq_false (Int.not_lt.2 h2)]; simp)]
          repeat (first | (with_reducible first | refine zw10 ?_ | refine zw1 ?_ | refine zw4 ?_ | refine zw18 ?_ | refine zw19 ?_ | refine zw11 ?_ | refine zw12 ?_ | refine zw14 ?_ | refine zw2 ?_ | refine zw5 ?_ | refine zw9 ?_ | refine zw13 ?_ | refine zw3 ?_ | refine zw6 ?_ | refine zw8 ?_ | refine zw15 ?_ | refine zw16 ?_ | refine zw17 ?_ | refine blk_o rfl ?_) | ((with_reducible first | refine zb1 mixed (fun K hK => ?_) | refine zb2 (fun K hK => ?_) | refine zb3 (fun K hK => ?_)); simp (disch := first | omega | (simp only [dls]; omega)) only [std, cev, cstep, St.ev, putT, AV.cells?, AV.int?, AV.bool?, AV.str?, readN, mkAV, putN, guardWant, bound, Value.oneCell', opO, putSt, reduceIte, reduceCtorEq, Int.reduceToNat, Nat.reduceAdd, Nat.reduceSub, Nat.reduceMul, Int.reduceAdd, Int.reduceSub, Int.reduceMul, Int.reduceNeg, fU, fT, hpi]; subst hK))
          exact ⟨_, rfl, rfl⟩
        · by_cases hv : (osl a)[i].v.val = 0
          · rw [rightTo_false hlt (by rw [hok, decide_eq_true hv]; simp)]
            rw [hg.2 hv] at hz
            repeat (first | (with_reducible first | refine zw10 ?_ | refine zw1 ?_ | refine zw4 ?_ | refine zw18 ?_ | refine zw19 ?_ | refine zw11 ?_ | refine zw12 ?_ | refine zw14 ?_ | refine zw2 ?_ | refine zw5 ?_ | refine zw9 ?_ | refine zw13 ?_ | refine zw3 ?_ | refine zw6 ?_ | refine zw8 ?_ | refine zw15 ?_ | refine zw16 ?_ | refine zw17 ?_ | refine blk_o rfl ?_) | ((with_reducible first | refine zb1 mixed (fun K hK => ?_) | refine zb2 (fun K hK => ?_) | refine zb3 (fun K hK => ?_)); simp (disch := first | omega | (simp only [dls]; omega)) only [std, cev, cstep, St.ev, putT, AV.cells?, AV.int?, AV.bool?, AV.str?, readN, mkAV, putN, guardWant, bound, Value.oneCell', opO, putSt, reduceIte, reduceCtorEq, Int.reduceToNat, Nat.reduceAdd, Nat.reduceSub, Nat.reduceMul, Int.reduceAdd, Int.reduceSub, Int.reduceMul, Int.reduceNeg, fU, fT, hpi]; subst hK) | (apply call_any_g (hz) rfl; (case hg => simp (disch := first | omega | (simp only [dls]; omega)) only [std, cev, cstep, St.ev, putT, AV.cells?, AV.int?, AV.bool?, AV.str?, readN, mkAV, putN, guardWant, bound, Value.oneCell', opO, putSt, reduceIte, reduceCtorEq, Int.reduceToNat, Nat.reduceAdd, Nat.reduceSub, Nat.reduceMul, Int.reduceAdd, Int.reduceSub, Int.reduceMul, Int.reduceNeg, fU, fT, hpi]); (case hcl => (simp only [evs, St.ev, constAV, evl]; (repeat (first | exact closeAVs_nil | (apply closeAVs_cons; (first | (apply close_own3; rfl) | rfl)))); done)); (case hu => rfl)))
            exact ⟨_, rfl, rfl⟩
          · have hne := fun e => hv (hg.1 e)
            generalize sgn (osl a)[i].v.top = sg at hz hne
            repeat (first | (with_reducible first | refine zw10 ?_ | refine zw1 ?_ | refine zw4 ?_ | refine zw18 ?_ | refine zw19 ?_ | refine zw11 ?_ | refine zw12 ?_ | refine zw14 ?_ | refine zw2 ?_ | refine zw5 ?_ | refine zw9 ?_ | refine zw13 ?_ | refine zw3 ?_ | refine zw6 ?_ | refine zw8 ?_ | refine zw15 ?_ | refine zw16 ?_ | refine zw17 ?_ | refine blk_o rfl ?_) | ((with_reducible first | refine zb1 mixed (fun K hK => ?_) | refine zb2 (fun K hK => ?_) | refine zb3 (fun K hK => ?_)); simp (disch := first | omega | (simp only [dls]; omega)) only [std, cev, cstep, St.ev, putT, AV.cells?, AV.int?, AV.bool?, AV.str?, readN, mkAV, putN, guardWant, bound, Value.oneCell', opO, putSt, reduceIte, reduceCtorEq, Int.reduceToNat, Nat.reduceAdd, Nat.reduceSub, Nat.reduceMul, Int.reduceAdd, Int.reduceSub, Int.reduceMul, Int.reduceNeg, fU, fT, hpi]; subst hK) | (apply call_any_g (hz) rfl; (case hg => simp (disch := first | omega | (simp only [dls]; omega)) only [std, cev, cstep, St.ev, putT, AV.cells?, AV.int?, AV.bool?, AV.str?, readN, mkAV, putN, guardWant, bound, Value.oneCell', opO, putSt, reduceIte, reduceCtorEq, Int.reduceToNat, Nat.reduceAdd, Nat.reduceSub, Nat.reduceMul, Int.reduceAdd, Int.reduceSub, Int.reduceMul, Int.reduceNeg, fU, fT, hpi]); (case hcl => (simp only [evs, St.ev, constAV, evl]; (repeat (first | exact closeAVs_nil | (apply closeAVs_cons; (first | (apply close_own3; rfl) | rfl)))); done)); (case hu => rfl)))
            refine ⟨(i + 1), ?hI3, ?hM3, Fgt.head (Nat.le_refl _) [true, false, true, false, false, true, true, true] ?hT3 ?hH3⟩
            case hT3 => first | (simp (disch := omega) only [hds, liveT, cleanAV, cleanCell, clean1, cleanBlk, reduceIte, Int.reduceSub, Int.reduceAdd, Int.reduceNeg]; done) | rfl
            case hH3 => first | (simp (disch := omega) only [hds, liveT, cleanAV, cleanCell, clean1, cleanBlk, reduceIte, Int.reduceSub, Int.reduceAdd, Int.reduceNeg]; done) | rfl
            · exact ⟨Nat.succ_le_of_lt hlt, by rw [rightTo_succ, hs, hok, decide_eq_false hv, decide_eq_true (Int.not_le.1 h2), decide_eq_true (by omega)]; simp⟩
            · show (osl a).length - (i + 1) < (osl a).length - i; omega

end Go.Proofs.Ytdhkdnmefeeclaa
