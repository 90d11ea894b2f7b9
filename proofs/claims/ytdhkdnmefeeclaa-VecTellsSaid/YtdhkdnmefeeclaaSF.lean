/- The law VecTells: the walk. -/
import Derived.WalkKit
import Derived.ProofKit
import Derived.OpenShut
import Derived.ShutString
import Derived.ChangeOld
import Derived.Below
import Derived.Test.YtdhkdnmefeeclaaG6a
import Derived.Test.YtdhkdnmefeeclaaG7a
import Derived.Test.YtdhkdnmefeeclaaK0
import Derived.Test.YtdhkdnmefeeclaaL1
set_option linter.unusedSimpArgs false
set_option linter.unusedVariables false
set_option linter.unnecessarySimpa false
set_option linter.unusedSimpArgs false
set_option linter.unusedVariables false
set_option maxRecDepth 100000
set_option maxHeartbeats 4000000
namespace Go.Proofs.Ytdhkdnmefeeclaa
open Go Go.Am Go.Proofs Go.RowKit Go.Off

abbrev c8_k1 : CC := (CC.seq (CC.reg [⟨(some 79), none, (COp.mv (Operand.tmp 0))⟩, ⟨(some 80), none, (COp.mv (Operand.tmp 1))⟩, ⟨(some 81), none, (COp.callf (Operand.func 51) [(Operand.tmp 79), (Operand.tmp 80)])⟩, ⟨(some 82), none, (COp.mv (Operand.tmp 7))⟩, ⟨(some 83), none, (COp.beq false (Operand.tmp 81) (Operand.tmp 82))⟩, ⟨(some 84), none, (COp.mv (Operand.tmp 83))⟩, ⟨(some 85), (some (84, true)), (COp.mv (Operand.tmp 0))⟩, ⟨(some 86), (some (84, true)), (COp.callf (Operand.func 52) [(Operand.tmp 85)])⟩, ⟨(some 87), (some (84, true)), (COp.mv (Operand.tmp 8))⟩, ⟨(some 88), (some (84, true)), (COp.beq false (Operand.tmp 86) (Operand.tmp 87))⟩, ⟨(some 89), none, (COp.pick (Operand.tmp 84) (Operand.tmp 88) (Operand.const (Value.bool false)))⟩, ⟨(some 90), none, (COp.mv (Operand.tmp 89))⟩, ⟨(some 91), (some (90, true)), (COp.callf (Operand.func 27) [])⟩, ⟨(some 92), none, (COp.pick (Operand.tmp 90) (Operand.tmp 91) (Operand.const (Value.bool false)))⟩, ⟨(some 4), none, (COp.mv (Operand.tmp 92))⟩]) CC.ret)
abbrev c8_b1 : CC := (CC.seq (CC.reg [⟨(some 66), none, (COp.bin BinOp.lss (Operand.tmp 65) (Operand.tmp 64))⟩]) (CC.seq (CC.cond (Operand.tmp 66) CC.skip (CC.exit 2)) (CC.seq (CC.block 3 (CC.seq (CC.reg [⟨(some 67), none, (COp.mv (Operand.tmp 65))⟩, ⟨(some 11), none, (COp.mv (Operand.tmp 67))⟩]) (CC.seq (CC.reg [⟨(some 68), none, (COp.mv (Operand.tmp 10))⟩, ⟨(some 69), none, (COp.mv (Operand.tmp 11))⟩, ⟨(some 70), none, (COp.iaddr 1 none (Operand.tmp 68) (Operand.tmp 69))⟩, ⟨(some 71), none, (COp.load 1 false (Operand.tmp 70))⟩, ⟨(some 72), none, (COp.mv (Operand.tmp 5))⟩, ⟨(some 73), none, (COp.mv (Operand.tmp 11))⟩, ⟨(some 74), none, (COp.iaddr 2 none (Operand.tmp 72) (Operand.tmp 73))⟩, ⟨(some 75), none, (COp.load 2 true (Operand.tmp 74))⟩, ⟨(some 76), none, (COp.callf (Operand.func 50) [(Operand.tmp 75)])⟩, ⟨(some 77), none, (COp.bin BinOp.neq (Operand.tmp 71) (Operand.tmp 76))⟩]) (CC.cond (Operand.tmp 77) (CC.seq (CC.reg [⟨(some 4), none, (COp.mv (Operand.const (Value.bool false)))⟩]) CC.ret) CC.skip)))) (CC.reg [⟨(some 78), none, (COp.bin BinOp.add (Operand.tmp 65) (Operand.const (Value.int IntKind.i64 (1))))⟩, ⟨(some 65), none, (COp.mv (Operand.tmp 78))⟩]))))
abbrev c8_k2 : CC := (CC.seq (CC.reg [⟨(some 56), none, (COp.mv (Operand.tmp 0))⟩, ⟨(some 57), none, (COp.callf (Operand.func 49) [(Operand.tmp 56)])⟩, ⟨(some 10), none, (COp.mv (Operand.tmp 57))⟩]) (CC.seq (CC.seq (CC.reg [⟨(some 58), none, (COp.mv (Operand.tmp 10))⟩, ⟨(some 59), none, (COp.len false (Operand.tmp 58))⟩, ⟨(some 60), none, (COp.mv (Operand.tmp 0))⟩, ⟨(some 61), none, (COp.len false (Operand.tmp 60))⟩, ⟨(some 62), none, (COp.bin BinOp.neq (Operand.tmp 59) (Operand.tmp 61))⟩]) (CC.cond (Operand.tmp 62) (CC.seq (CC.reg [⟨(some 4), none, (COp.mv (Operand.const (Value.bool false)))⟩]) CC.ret) CC.skip)) (CC.seq (CC.seq (CC.reg [⟨(some 63), none, (COp.mv (Operand.tmp 10))⟩, ⟨(some 64), none, (COp.len false (Operand.tmp 63))⟩, ⟨(some 65), none, (COp.mv (Operand.const (Value.int IntKind.i64 (0))))⟩]) (CC.block 2 (CC.loop c8_b1))) c8_k1)))
abbrev c8_b2 : CC := (CC.seq (CC.reg [⟨(some 33), none, (COp.bin BinOp.lss (Operand.tmp 32) (Operand.tmp 31))⟩]) (CC.seq (CC.cond (Operand.tmp 33) CC.skip (CC.exit 0)) (CC.seq (CC.block 1 (CC.seq (CC.reg [⟨(some 34), none, (COp.mv (Operand.tmp 32))⟩, ⟨(some 9), none, (COp.mv (Operand.tmp 34))⟩]) (CC.seq (CC.reg [⟨(some 35), none, (COp.mv (Operand.tmp 7))⟩, ⟨(some 36), none, (COp.mv (Operand.tmp 35))⟩, ⟨(some 37), (some (36, true)), (COp.mv (Operand.tmp 5))⟩, ⟨(some 38), (some (36, true)), (COp.mv (Operand.tmp 9))⟩, ⟨(some 39), (some (36, true)), (COp.iaddr 2 none (Operand.tmp 37) (Operand.tmp 38))⟩, ⟨(some 40), (some (36, true)), (COp.load 2 true (Operand.tmp 39))⟩, ⟨(some 41), (some (36, true)), (COp.mv (Operand.tmp 6))⟩, ⟨(some 42), (some (36, true)), (COp.mv (Operand.tmp 9))⟩, ⟨(some 43), (some (36, true)), (COp.callf (Operand.func 38) [(Operand.tmp 41), (Operand.tmp 42)])⟩, ⟨(some 44), (some (36, true)), (COp.aggeq false 2 (Operand.tmp 40) (Operand.tmp 43))⟩, ⟨(some 45), none, (COp.pick (Operand.tmp 36) (Operand.tmp 44) (Operand.const (Value.bool false)))⟩, ⟨(some 7), none, (COp.mv (Operand.tmp 45))⟩]) (CC.reg [⟨(some 46), none, (COp.mv (Operand.tmp 8))⟩, ⟨(some 47), none, (COp.mv (Operand.tmp 46))⟩, ⟨(some 48), (some (47, true)), (COp.mv (Operand.tmp 5))⟩, ⟨(some 49), (some (47, true)), (COp.mv (Operand.tmp 9))⟩, ⟨(some 50), (some (47, true)), (COp.iaddr 2 none (Operand.tmp 48) (Operand.tmp 49))⟩, ⟨(some 51), (some (47, true)), (COp.faddr 0 (Operand.tmp 50))⟩, ⟨(some 52), (some (47, true)), (COp.load 1 false (Operand.tmp 51))⟩, ⟨(some 53), (some (47, true)), (COp.bin BinOp.eql (Operand.tmp 52) (Operand.const (Value.string ⟨#[48]⟩)))⟩, ⟨(some 54), none, (COp.pick (Operand.tmp 47) (Operand.tmp 53) (Operand.const (Value.bool false)))⟩, ⟨(some 8), none, (COp.mv (Operand.tmp 54))⟩])))) (CC.reg [⟨(some 55), none, (COp.bin BinOp.add (Operand.tmp 32) (Operand.const (Value.int IntKind.i64 (1))))⟩, ⟨(some 32), none, (COp.mv (Operand.tmp 55))⟩]))))
abbrev c8 : CC := (CC.seq (CC.reg [⟨(some 4), none, (COp.mv (Operand.const (Value.bool false)))⟩]) (CC.seq (CC.seq (CC.reg [⟨(some 12), none, (COp.mv (Operand.tmp 0))⟩, ⟨(some 13), none, (COp.callf (Operand.func 26) [(Operand.tmp 12)])⟩, ⟨(some 14), none, (COp.un UnOp.not (Operand.tmp 13))⟩, ⟨(some 15), none, (COp.mv (Operand.tmp 14))⟩, ⟨(some 16), (some (15, false)), (COp.mv (Operand.tmp 1))⟩, ⟨(some 17), (some (15, false)), (COp.callf (Operand.func 26) [(Operand.tmp 16)])⟩, ⟨(some 18), (some (15, false)), (COp.un UnOp.not (Operand.tmp 17))⟩, ⟨(some 19), none, (COp.pick (Operand.tmp 15) (Operand.const (Value.bool true)) (Operand.tmp 18))⟩]) (CC.cond (Operand.tmp 19) (CC.seq (CC.reg [⟨(some 20), none, (COp.callf (Operand.func 27) [])⟩, ⟨(some 4), none, (COp.mv (Operand.tmp 20))⟩]) CC.ret) CC.skip)) (CC.seq (CC.reg [⟨(some 21), none, (COp.mv (Operand.tmp 0))⟩, ⟨(some 22), none, (COp.callf (Operand.func 31) [(Operand.tmp 21)])⟩, ⟨(some 23), none, (COp.mv (Operand.tmp 1))⟩, ⟨(some 24), none, (COp.callf (Operand.func 31) [(Operand.tmp 23)])⟩, ⟨(some 5), none, (COp.mv (Operand.tmp 22))⟩, ⟨(some 6), none, (COp.mv (Operand.tmp 24))⟩]) (CC.seq (CC.reg [⟨(some 25), none, (COp.mv (Operand.tmp 5))⟩, ⟨(some 26), none, (COp.len false (Operand.tmp 25))⟩, ⟨(some 27), none, (COp.mv (Operand.tmp 6))⟩, ⟨(some 28), none, (COp.len false (Operand.tmp 27))⟩, ⟨(some 29), none, (COp.bin BinOp.eql (Operand.tmp 26) (Operand.tmp 28))⟩, ⟨(some 7), none, (COp.mv (Operand.tmp 29))⟩, ⟨(some 8), none, (COp.mv (Operand.const (Value.bool true)))⟩]) (CC.seq (CC.seq (CC.reg [⟨(some 30), none, (COp.mv (Operand.tmp 5))⟩, ⟨(some 31), none, (COp.len false (Operand.tmp 30))⟩, ⟨(some 32), none, (COp.mv (Operand.const (Value.int IntKind.i64 (0))))⟩]) (CC.block 0 (CC.loop c8_b2))) c8_k2)))))
theorem cc8 : ccode Try.prog [] (Try.f8.body.getD .skip) = some c8 := by kernel_rfl
theorem body8 : Try.f8.body = some (Try.f8.body.getD .skip) := rfl

theorem vecTells_C (a b : VV) : PureC Try.prog 8 [aV a, aV b] (.ret (aB true)) := by
  have h1 := few_C a
  have h2 := few_C b
  have hw := awake5_C
  by_cases c1 : fewB a = true
  · rw [c1] at h1
    by_cases c2 : fewB b = true
    · rw [c2] at h2
      have fa := fewB_fits c1
      have fb := fewB_fits c2
      have fa1 := fa.1
      have ra := row_C a 8 3 fa (by decide) (by decide)
      have rb := row_C b 8 3 fb (by decide) (by decide)
      have tx := vtexts_R a 8 3 fa (by decide) (by decide)
      have sm := vsame_C a b 8 3 fa fb (by decide) (by decide)
      have zr := vzero_C a 8 3 fa (by decide) (by decide)
      have hlx : (osl (rowO (rowD a))).length = (osl a).length := by rw [osl_rowO, rowD_len]
      have hly : (osl (rowO (rowD b))).length = (osl b).length := by rw [osl_rowO, rowD_len]
      have hgx : ∀ i (h : i < (osl (rowO (rowD a))).length), (osl (rowO (rowD a)))[i] = qAt a i := fun i h => by
        have h' : i < (osl a).length := by rw [hlx] at h; exact h
        unfold qAt; rw [rAt_in h']; simp only [osl_rowO, rowD, List.getElem_map]
      have hat : ∀ i : Nat, PureC Try.prog 38 [aD (rowO (rowD b)), aI (i : Int)] (.ret (aQ (qAt b i))) := fun i => by
        have := dat_C (rowO (rowD b)) (i : Int)
        rw [dAtI_rowD] at this
        unfold qAtI at this
        rw [if_pos (by omega), Int.toNat_natCast] at this
        exact this
      have hlt : (osl (rowO (textsQ a))).length = (osl a).length := by rw [osl_rowO]; simp [textsQ]
      have hgt : ∀ i (h : i < (osl (rowO (textsQ a))).length), (osl (rowO (textsQ a)))[i] = textQ (qAt a i) := fun i h => by
        have h' : i < (osl a).length := by rw [hlt] at h; exact h
        unfold qAt; rw [rAt_in h']; simp only [osl_rowO, textsQ, List.getElem_map]
      have hbe : decide (((osl a).length : Int) = ((osl b).length : Int)) = ((osl a).length == (osl b).length) := by
        by_cases h : (osl a).length = (osl b).length
        · simp [h]
        · have h' : ¬ ((osl a).length : Int) = ((osl b).length : Int) := by omega
          rw [decide_eq_false h']; symm; simpa using h
      have hst := fun i => sameTo_succ a b i
      have hzt := fun i => zeroTo_succ a i
      have hre := fun i => rat_eq_beq (qAt a i) (qAt b i)
      have hze := fun i => decZ_zero_beq (qAt a i)
      generalize rowO (rowD a) = x at *
      generalize rowO (rowD b) = y at *
      generalize rowO (textsQ a) = ts at *
      have main : ∀ s0 : Bool, s0 = ((osl a).length == (osl b).length) → ((((osl x).length : Int) == ((osl y).length : Int)) = s0) → PureC Try.prog 8 [aV a, aV b] (.ret (aB true)) := by
        intro s0 hs0 hs1
        refine pureC_of (rs := [(RV.tmp 4)]) Try.func8 (fun a w => Try.call8 a w) body8 cc8 (by kernel_rfl) ?_
        rw [Try.ntmps8]
        simp only [frs, Nat.reduceAdd, Nat.reduceSub]
        repeat (first | (with_reducible first | refine zw10 ?_ | refine zw1 ?_ | refine zw4 ?_ | refine zw18 ?_ | refine zw19 ?_ | refine zw11 ?_ | refine zw12 ?_ | refine zw14 ?_ | refine zw2 ?_ | refine zw5 ?_ | refine zw9 ?_ | refine zw13 ?_ | refine zw3 ?_ | refine zw6 ?_ | refine zw8 ?_ | refine zw15 ?_ | refine zw16 ?_ | refine zw17 ?_ | refine blk_o rfl ?_) | ((with_reducible first | refine zb1 mixed (fun K hK => ?_) | refine zb2 (fun K hK => ?_) | refine zb3 (fun K hK => ?_)); simp (disch := first | omega | (simp only [dls]; omega)) only [std, cev, cstep, St.ev, putT, AV.cells?, AV.int?, AV.bool?, AV.str?, readN, mkAV, putN, guardWant, bound, Value.oneCell', opO, putSt, reduceIte, reduceCtorEq, Int.reduceToNat, Nat.reduceAdd, Nat.reduceSub, Nat.reduceMul, Int.reduceAdd, Int.reduceSub, Int.reduceMul, Int.reduceNeg, fU, constAV_arr, cons_beq_nil, nil_beq_nil, hs1]; subst hK) | refine zcA (h1) rfl rfl rfl ?_ | (apply call_any_g (h2) rfl; (case hg => simp (disch := first | omega | (simp only [dls]; omega)) only [std, cev, cstep, St.ev, putT, AV.cells?, AV.int?, AV.bool?, AV.str?, readN, mkAV, putN, guardWant, bound, Value.oneCell', opO, putSt, reduceIte, reduceCtorEq, Int.reduceToNat, Nat.reduceAdd, Nat.reduceSub, Nat.reduceMul, Int.reduceAdd, Int.reduceSub, Int.reduceMul, Int.reduceNeg, fU, constAV_arr, cons_beq_nil, nil_beq_nil, hs1]); (case hcl => (simp only [evs, St.ev, constAV, evl]; (repeat (first | exact closeAVs_nil | (apply closeAVs_cons; (first | (apply close_own3; rfl) | (refine close_ownO rfl ?_; assumption) | rfl)))); done)); (case hu => rfl)) | refine zcA (ra) rfl rfl rfl ?_ | refine zcA (rb) rfl rfl rfl ?_)
        refine awp_loop (fun (zz : Nat × Bool × Bool) => ⟨(aV a :: aV b :: .junk :: .junk :: aB false :: aD x :: aD y :: aB zz.2.1 :: aB zz.2.2 :: .junk :: .junk :: .junk :: .junk :: .junk :: .junk :: .junk :: .junk :: .junk :: .junk :: .junk :: .junk :: .junk :: .junk :: .junk :: .junk :: .junk :: .junk :: .junk :: .junk :: .junk :: aD x :: aI (osl x).length :: aI zz.1 :: .junk :: .junk :: .junk :: .junk :: .junk :: .junk :: .junk :: .junk :: .junk :: .junk :: .junk :: .junk :: .junk :: .junk :: .junk :: .junk :: .junk :: .junk :: .junk :: .junk :: .junk :: .junk :: .junk :: .junk :: .junk :: .junk :: .junk :: .junk :: .junk :: .junk :: .junk :: .junk :: .junk :: .junk :: .junk :: .junk :: .junk :: .junk :: .junk :: .junk :: .junk :: .junk :: .junk :: .junk :: .junk :: .junk :: .junk :: .junk :: .junk :: .junk :: .junk :: .junk :: .junk :: .junk :: .junk :: .junk :: .junk :: .junk :: .junk :: .junk :: []), []⟩) (fun (zz : Nat × Bool × Bool) => zz.1 ≤ (osl a).length ∧ zz.2.1 = (((osl a).length == (osl b).length) && sameTo a b zz.1) ∧ zz.2.2 = zeroTo a zz.1) (fun (zz : Nat × Bool × Bool) => (osl a).length - zz.1) (0, s0, true) ?hI1 (Fgt.head (Nat.le_refl _) [true, true, false, false, true, true, true, true, true, false, false, false, false, false, false, false, false, false, false, false, false, false, false, false, false, false, false, false, false, false, true, true, true] ?hT1 ?hH1) ?hB1
        case hT1 => first | (simp (disch := omega) only [hds, liveT, cleanAV, cleanCell, clean1, cleanBlk, reduceIte, Int.reduceSub, Int.reduceAdd, Int.reduceNeg]; done) | rfl
        case hH1 => first | (simp (disch := omega) only [hds, liveT, cleanAV, cleanCell, clean1, cleanBlk, reduceIte, Int.reduceSub, Int.reduceAdd, Int.reduceNeg]; done) | rfl
        · dsimp only; exact ⟨by omega, by rw [hs0]; exact (Bool.and_true _).symm, rfl⟩
        rintro ⟨i, s, z⟩ ⟨hi, hss, hzz⟩
        dsimp only at hi hss hzz
        by_cases him : i = (osl a).length
        · rw [him] at hss hzz
          change s = sameQ a b at hss
          change z = zeroQ a at hzz
          rw [← hss] at sm
          rw [← hzz] at zr
          repeat (first | (with_reducible first | refine zw10 ?_ | refine zw1 ?_ | refine zw4 ?_ | refine zw18 ?_ | refine zw19 ?_ | refine zw11 ?_ | refine zw12 ?_ | refine zw14 ?_ | refine zw2 ?_ | refine zw5 ?_ | refine zw9 ?_ | refine zw13 ?_ | refine zw3 ?_ | refine zw6 ?_ | refine zw8 ?_ | refine zw15 ?_ | refine zw16 ?_ | refine zw17 ?_ | refine blk_o rfl ?_) | ((with_reducible first | refine zb1 mixed (fun K hK => ?_) | refine zb2 (fun K hK => ?_) | refine zb3 (fun K hK => ?_)); simp (disch := first | omega | (simp only [dls]; omega)) only [std, cev, cstep, St.ev, putT, AV.cells?, AV.int?, AV.bool?, AV.str?, readN, mkAV, putN, guardWant, bound, Value.oneCell', opO, putSt, reduceIte, reduceCtorEq, Int.reduceToNat, Nat.reduceAdd, Nat.reduceSub, Nat.reduceMul, Int.reduceAdd, Int.reduceSub, Int.reduceMul, Int.reduceNeg, fU, constAV_arr, cons_beq_nil, nil_beq_nil]; subst hK) | refine zcA (tx) rfl rfl rfl ?_)
          refine awp_loop (fun (zz : Nat) => ⟨(aV a :: aV b :: .junk :: .junk :: aB false :: aD x :: .junk :: aB s :: aB z :: .junk :: .one (.c (encSl 1 fS ts)) :: .junk :: .junk :: .junk :: .junk :: .junk :: .junk :: .junk :: .junk :: .junk :: .junk :: .junk :: .junk :: .junk :: .junk :: .junk :: .junk :: .junk :: .junk :: .junk :: .junk :: .junk :: .junk :: .junk :: .junk :: .junk :: .junk :: .junk :: .junk :: .junk :: .junk :: .junk :: .junk :: .junk :: .junk :: .junk :: .junk :: .junk :: .junk :: .junk :: .junk :: .junk :: .junk :: .junk :: .junk :: .junk :: .junk :: .junk :: .junk :: .junk :: .junk :: .junk :: .junk :: .one (.c (encSl 1 fS ts)) :: aI (osl ts).length :: aI zz :: .junk :: .junk :: .junk :: .junk :: .junk :: .junk :: .junk :: .junk :: .junk :: .junk :: .junk :: .junk :: .junk :: .junk :: .junk :: .junk :: .junk :: .junk :: .junk :: .junk :: .junk :: .junk :: .junk :: .junk :: .junk :: .junk :: .junk :: []), []⟩) (fun (zz : Nat) => zz ≤ (osl a).length) (fun (zz : Nat) => (osl a).length - zz) (0) ?hI2 (Fgt.head (Nat.le_refl _) [true, true, false, false, true, true, false, true, true, false, true, false, false, false, false, false, false, false, false, false, false, false, false, false, false, false, false, false, false, false, false, false, false, false, false, false, false, false, false, false, false, false, false, false, false, false, false, false, false, false, false, false, false, false, false, false, false, false, false, false, false, false, false, true, true, true] ?hT2 ?hH2) ?hB2
          case hT2 => first | (simp (disch := omega) only [hds, liveT, cleanAV, cleanCell, clean1, cleanBlk, reduceIte, Int.reduceSub, Int.reduceAdd, Int.reduceNeg]; done) | rfl
          case hH2 => first | (simp (disch := omega) only [hds, liveT, cleanAV, cleanCell, clean1, cleanBlk, reduceIte, Int.reduceSub, Int.reduceAdd, Int.reduceNeg]; done) | rfl
          · exact Nat.zero_le _
          intro j hj
          by_cases hjm : j = (osl a).length
          · repeat (first | (with_reducible first | refine zw10 ?_ | refine zw1 ?_ | refine zw4 ?_ | refine zw18 ?_ | refine zw19 ?_ | refine zw11 ?_ | refine zw12 ?_ | refine zw14 ?_ | refine zw2 ?_ | refine zw5 ?_ | refine zw9 ?_ | refine zw13 ?_ | refine zw3 ?_ | refine zw6 ?_ | refine zw8 ?_ | refine zw15 ?_ | refine zw16 ?_ | refine zw17 ?_ | refine blk_o rfl ?_) | ((with_reducible first | refine zb1 mixed (fun K hK => ?_) | refine zb2 (fun K hK => ?_) | refine zb3 (fun K hK => ?_)); simp (disch := first | omega | (simp only [dls]; omega)) only [std, cev, cstep, St.ev, putT, AV.cells?, AV.int?, AV.bool?, AV.str?, readN, mkAV, putN, guardWant, bound, Value.oneCell', opO, putSt, reduceIte, reduceCtorEq, Int.reduceToNat, Nat.reduceAdd, Nat.reduceSub, Nat.reduceMul, Int.reduceAdd, Int.reduceSub, Int.reduceMul, Int.reduceNeg, fU, constAV_arr, cons_beq_nil, nil_beq_nil]; subst hK) | refine zcA (sm) rfl rfl rfl ?_ | (apply call_any_g (zr) rfl; (case hg => simp (disch := first | omega | (simp only [dls]; omega)) only [std, cev, cstep, St.ev, putT, AV.cells?, AV.int?, AV.bool?, AV.str?, readN, mkAV, putN, guardWant, bound, Value.oneCell', opO, putSt, reduceIte, reduceCtorEq, Int.reduceToNat, Nat.reduceAdd, Nat.reduceSub, Nat.reduceMul, Int.reduceAdd, Int.reduceSub, Int.reduceMul, Int.reduceNeg, fU, constAV_arr, cons_beq_nil, nil_beq_nil]); (case hcl => (simp only [evs, St.ev, constAV, evl]; (repeat (first | exact closeAVs_nil | (apply closeAVs_cons; (first | (apply close_own3; rfl) | (refine close_ownO rfl ?_; assumption) | rfl)))); done)); (case hu => rfl)) | (apply call_any_g (hw) rfl; (case hg => simp (disch := first | omega | (simp only [dls]; omega)) only [std, cev, cstep, St.ev, putT, AV.cells?, AV.int?, AV.bool?, AV.str?, readN, mkAV, putN, guardWant, bound, Value.oneCell', opO, putSt, reduceIte, reduceCtorEq, Int.reduceToNat, Nat.reduceAdd, Nat.reduceSub, Nat.reduceMul, Int.reduceAdd, Int.reduceSub, Int.reduceMul, Int.reduceNeg, fU, constAV_arr, cons_beq_nil, nil_beq_nil]); (case hcl => (simp only [evs, St.ev, constAV, evl]; (repeat (first | exact closeAVs_nil | (apply closeAVs_cons; (first | (apply close_own3; rfl) | (refine close_ownO rfl ?_; assumption) | rfl)))); done)); (case hu => rfl)))
            exact ⟨_, rfl, rfl⟩
          · have hja : j < (osl a).length := by omega
            have hjx : j < (osl x).length := by omega
            have hjt : j < (osl ts).length := by omega
            have e1 := hgx j hjx
            have e2 := hgt j hjt
            have qt := qtext_C (qAt a j) (((fa.at j).val (by decide) : FitsQ (qAt a j) 3).mono (by decide))
            have hself : (textQ (qAt a j) != textQ (qAt a j)) = false := by simp
            generalize textQ (qAt a j) = tq at *
            generalize qAt a j = qj at *
            repeat (first | (with_reducible first | refine zw10 ?_ | refine zw1 ?_ | refine zw4 ?_ | refine zw18 ?_ | refine zw19 ?_ | refine zw11 ?_ | refine zw12 ?_ | refine zw14 ?_ | refine zw2 ?_ | refine zw5 ?_ | refine zw9 ?_ | refine zw13 ?_ | refine zw3 ?_ | refine zw6 ?_ | refine zw8 ?_ | refine zw15 ?_ | refine zw16 ?_ | refine zw17 ?_ | refine blk_o rfl ?_) | ((with_reducible first | refine zb1 mixed (fun K hK => ?_) | refine zb2 (fun K hK => ?_) | refine zb3 (fun K hK => ?_)); simp (disch := first | omega | (simp only [dls]; omega)) only [std, cev, cstep, St.ev, putT, AV.cells?, AV.int?, AV.bool?, AV.str?, readN, mkAV, putN, guardWant, bound, Value.oneCell', opO, putSt, reduceIte, reduceCtorEq, Int.reduceToNat, Nat.reduceAdd, Nat.reduceSub, Nat.reduceMul, Int.reduceAdd, Int.reduceSub, Int.reduceMul, Int.reduceNeg, fU, constAV_arr, cons_beq_nil, nil_beq_nil, fS, fD, e1, e2, hself]; subst hK) | refine zcA (qt) rfl rfl rfl ?_)
            refine ⟨(j + 1), ?hI3, ?hM3, Fgt.head (Nat.le_refl _) [true, true, false, false, true, true, false, true, true, false, true, false, false, false, false, false, false, false, false, false, false, false, false, false, false, false, false, false, false, false, false, false, false, false, false, false, false, false, false, false, false, false, false, false, false, false, false, false, false, false, false, false, false, false, false, false, false, false, false, false, false, false, false, true, true, true] ?hT3 ?hH3⟩
            case hT3 => first | (simp (disch := omega) only [hds, liveT, cleanAV, cleanCell, clean1, cleanBlk, reduceIte, Int.reduceSub, Int.reduceAdd, Int.reduceNeg]; done) | rfl
            case hH3 => first | (simp (disch := omega) only [hds, liveT, cleanAV, cleanCell, clean1, cleanBlk, reduceIte, Int.reduceSub, Int.reduceAdd, Int.reduceNeg]; done) | rfl
            · exact Nat.succ_le_of_lt hja
            · show (osl a).length - (j + 1) < (osl a).length - j; omega
        · have hia : i < (osl a).length := by omega
          have hix : i < (osl x).length := by omega
          have e1 := hgx i hix
          have at1 := hat i
          have hr1 := hre i
          have hz1 := hze i
          have s1 := hst i
          have z1 := hzt i
          generalize qAt a i = qa at *
          generalize qAt b i = qb at *
          cases s
          · cases z
            · repeat (first | (with_reducible first | refine zw10 ?_ | refine zw1 ?_ | refine zw4 ?_ | refine zw18 ?_ | refine zw19 ?_ | refine zw11 ?_ | refine zw12 ?_ | refine zw14 ?_ | refine zw2 ?_ | refine zw5 ?_ | refine zw9 ?_ | refine zw13 ?_ | refine zw3 ?_ | refine zw6 ?_ | refine zw8 ?_ | refine zw15 ?_ | refine zw16 ?_ | refine zw17 ?_ | refine blk_o rfl ?_) | ((with_reducible first | refine zb1 mixed (fun K hK => ?_) | refine zb2 (fun K hK => ?_) | refine zb3 (fun K hK => ?_)); simp (disch := first | omega | (simp only [dls]; omega)) only [std, cev, cstep, St.ev, putT, AV.cells?, AV.int?, AV.bool?, AV.str?, readN, mkAV, putN, guardWant, bound, Value.oneCell', opO, putSt, reduceIte, reduceCtorEq, Int.reduceToNat, Nat.reduceAdd, Nat.reduceSub, Nat.reduceMul, Int.reduceAdd, Int.reduceSub, Int.reduceMul, Int.reduceNeg, fU, constAV_arr, cons_beq_nil, nil_beq_nil, fD, e1, strCells, hr1, hz1]; subst hK) | (apply call_any_g (at1) rfl; (case hg => simp (disch := first | omega | (simp only [dls]; omega)) only [std, cev, cstep, St.ev, putT, AV.cells?, AV.int?, AV.bool?, AV.str?, readN, mkAV, putN, guardWant, bound, Value.oneCell', opO, putSt, reduceIte, reduceCtorEq, Int.reduceToNat, Nat.reduceAdd, Nat.reduceSub, Nat.reduceMul, Int.reduceAdd, Int.reduceSub, Int.reduceMul, Int.reduceNeg, fU, constAV_arr, cons_beq_nil, nil_beq_nil, fD, e1, strCells, hr1, hz1]); (case hcl => (simp only [evs, St.ev, constAV, evl]; (repeat (first | exact closeAVs_nil | (apply closeAVs_cons; (first | (apply close_own3; rfl) | (refine close_ownO rfl ?_; assumption) | rfl)))); done)); (case hu => rfl)))
              refine ⟨(i + 1, false, false), ?hI4, ?hM4, Fgt.head (Nat.le_refl _) [true, true, false, false, true, true, true, true, true, false, false, false, false, false, false, false, false, false, false, false, false, false, false, false, false, false, false, false, false, false, true, true, true] ?hT4 ?hH4⟩
              case hT4 => first | (simp (disch := omega) only [hds, liveT, cleanAV, cleanCell, clean1, cleanBlk, reduceIte, Int.reduceSub, Int.reduceAdd, Int.reduceNeg]; done) | rfl
              case hH4 => first | (simp (disch := omega) only [hds, liveT, cleanAV, cleanCell, clean1, cleanBlk, reduceIte, Int.reduceSub, Int.reduceAdd, Int.reduceNeg]; done) | rfl
              · dsimp only; exact ⟨by omega, by rw [s1, ← Bool.and_assoc, ← hss]; rfl, by rw [z1, ← hzz]; rfl⟩
              · dsimp only; omega
            · repeat (first | (with_reducible first | refine zw10 ?_ | refine zw1 ?_ | refine zw4 ?_ | refine zw18 ?_ | refine zw19 ?_ | refine zw11 ?_ | refine zw12 ?_ | refine zw14 ?_ | refine zw2 ?_ | refine zw5 ?_ | refine zw9 ?_ | refine zw13 ?_ | refine zw3 ?_ | refine zw6 ?_ | refine zw8 ?_ | refine zw15 ?_ | refine zw16 ?_ | refine zw17 ?_ | refine blk_o rfl ?_) | ((with_reducible first | refine zb1 mixed (fun K hK => ?_) | refine zb2 (fun K hK => ?_) | refine zb3 (fun K hK => ?_)); simp (disch := first | omega | (simp only [dls]; omega)) only [std, cev, cstep, St.ev, putT, AV.cells?, AV.int?, AV.bool?, AV.str?, readN, mkAV, putN, guardWant, bound, Value.oneCell', opO, putSt, reduceIte, reduceCtorEq, Int.reduceToNat, Nat.reduceAdd, Nat.reduceSub, Nat.reduceMul, Int.reduceAdd, Int.reduceSub, Int.reduceMul, Int.reduceNeg, fU, constAV_arr, cons_beq_nil, nil_beq_nil, fD, e1, strCells, hr1, hz1]; subst hK) | (apply call_any_g (at1) rfl; (case hg => simp (disch := first | omega | (simp only [dls]; omega)) only [std, cev, cstep, St.ev, putT, AV.cells?, AV.int?, AV.bool?, AV.str?, readN, mkAV, putN, guardWant, bound, Value.oneCell', opO, putSt, reduceIte, reduceCtorEq, Int.reduceToNat, Nat.reduceAdd, Nat.reduceSub, Nat.reduceMul, Int.reduceAdd, Int.reduceSub, Int.reduceMul, Int.reduceNeg, fU, constAV_arr, cons_beq_nil, nil_beq_nil, fD, e1, strCells, hr1, hz1]); (case hcl => (simp only [evs, St.ev, constAV, evl]; (repeat (first | exact closeAVs_nil | (apply closeAVs_cons; (first | (apply close_own3; rfl) | (refine close_ownO rfl ?_; assumption) | rfl)))); done)); (case hu => rfl)))
              refine ⟨(i + 1, false, decide (qa = 0)), ?hI5, ?hM5, Fgt.head (Nat.le_refl _) [true, true, false, false, true, true, true, true, true, false, false, false, false, false, false, false, false, false, false, false, false, false, false, false, false, false, false, false, false, false, true, true, true] ?hT5 ?hH5⟩
              case hT5 => first | (simp (disch := omega) only [hds, liveT, cleanAV, cleanCell, clean1, cleanBlk, reduceIte, Int.reduceSub, Int.reduceAdd, Int.reduceNeg]; done) | rfl
              case hH5 => first | (simp (disch := omega) only [hds, liveT, cleanAV, cleanCell, clean1, cleanBlk, reduceIte, Int.reduceSub, Int.reduceAdd, Int.reduceNeg]; done) | rfl
              · dsimp only; exact ⟨by omega, by rw [s1, ← Bool.and_assoc, ← hss]; rfl, by rw [z1, ← hzz]; rfl⟩
              · dsimp only; omega
          · cases z
            · repeat (first | (with_reducible first | refine zw10 ?_ | refine zw1 ?_ | refine zw4 ?_ | refine zw18 ?_ | refine zw19 ?_ | refine zw11 ?_ | refine zw12 ?_ | refine zw14 ?_ | refine zw2 ?_ | refine zw5 ?_ | refine zw9 ?_ | refine zw13 ?_ | refine zw3 ?_ | refine zw6 ?_ | refine zw8 ?_ | refine zw15 ?_ | refine zw16 ?_ | refine zw17 ?_ | refine blk_o rfl ?_) | ((with_reducible first | refine zb1 mixed (fun K hK => ?_) | refine zb2 (fun K hK => ?_) | refine zb3 (fun K hK => ?_)); simp (disch := first | omega | (simp only [dls]; omega)) only [std, cev, cstep, St.ev, putT, AV.cells?, AV.int?, AV.bool?, AV.str?, readN, mkAV, putN, guardWant, bound, Value.oneCell', opO, putSt, reduceIte, reduceCtorEq, Int.reduceToNat, Nat.reduceAdd, Nat.reduceSub, Nat.reduceMul, Int.reduceAdd, Int.reduceSub, Int.reduceMul, Int.reduceNeg, fU, constAV_arr, cons_beq_nil, nil_beq_nil, fD, e1, strCells, hr1, hz1]; subst hK) | (apply call_any_g (at1) rfl; (case hg => simp (disch := first | omega | (simp only [dls]; omega)) only [std, cev, cstep, St.ev, putT, AV.cells?, AV.int?, AV.bool?, AV.str?, readN, mkAV, putN, guardWant, bound, Value.oneCell', opO, putSt, reduceIte, reduceCtorEq, Int.reduceToNat, Nat.reduceAdd, Nat.reduceSub, Nat.reduceMul, Int.reduceAdd, Int.reduceSub, Int.reduceMul, Int.reduceNeg, fU, constAV_arr, cons_beq_nil, nil_beq_nil, fD, e1, strCells, hr1, hz1]); (case hcl => (simp only [evs, St.ev, constAV, evl]; (repeat (first | exact closeAVs_nil | (apply closeAVs_cons; (first | (apply close_own3; rfl) | (refine close_ownO rfl ?_; assumption) | rfl)))); done)); (case hu => rfl)))
              refine ⟨(i + 1, decide (qa = qb), false), ?hI6, ?hM6, Fgt.head (Nat.le_refl _) [true, true, false, false, true, true, true, true, true, false, false, false, false, false, false, false, false, false, false, false, false, false, false, false, false, false, false, false, false, false, true, true, true] ?hT6 ?hH6⟩
              case hT6 => first | (simp (disch := omega) only [hds, liveT, cleanAV, cleanCell, clean1, cleanBlk, reduceIte, Int.reduceSub, Int.reduceAdd, Int.reduceNeg]; done) | rfl
              case hH6 => first | (simp (disch := omega) only [hds, liveT, cleanAV, cleanCell, clean1, cleanBlk, reduceIte, Int.reduceSub, Int.reduceAdd, Int.reduceNeg]; done) | rfl
              · dsimp only; exact ⟨by omega, by rw [s1, ← Bool.and_assoc, ← hss]; rfl, by rw [z1, ← hzz]; rfl⟩
              · dsimp only; omega
            · repeat (first | (with_reducible first | refine zw10 ?_ | refine zw1 ?_ | refine zw4 ?_ | refine zw18 ?_ | refine zw19 ?_ | refine zw11 ?_ | refine zw12 ?_ | refine zw14 ?_ | refine zw2 ?_ | refine zw5 ?_ | refine zw9 ?_ | refine zw13 ?_ | refine zw3 ?_ | refine zw6 ?_ | refine zw8 ?_ | refine zw15 ?_ | refine zw16 ?_ | refine zw17 ?_ | refine blk_o rfl ?_) | ((with_reducible first | refine zb1 mixed (fun K hK => ?_) | refine zb2 (fun K hK => ?_) | refine zb3 (fun K hK => ?_)); simp (disch := first | omega | (simp only [dls]; omega)) only [std, cev, cstep, St.ev, putT, AV.cells?, AV.int?, AV.bool?, AV.str?, readN, mkAV, putN, guardWant, bound, Value.oneCell', opO, putSt, reduceIte, reduceCtorEq, Int.reduceToNat, Nat.reduceAdd, Nat.reduceSub, Nat.reduceMul, Int.reduceAdd, Int.reduceSub, Int.reduceMul, Int.reduceNeg, fU, constAV_arr, cons_beq_nil, nil_beq_nil, fD, e1, strCells, hr1, hz1]; subst hK) | (apply call_any_g (at1) rfl; (case hg => simp (disch := first | omega | (simp only [dls]; omega)) only [std, cev, cstep, St.ev, putT, AV.cells?, AV.int?, AV.bool?, AV.str?, readN, mkAV, putN, guardWant, bound, Value.oneCell', opO, putSt, reduceIte, reduceCtorEq, Int.reduceToNat, Nat.reduceAdd, Nat.reduceSub, Nat.reduceMul, Int.reduceAdd, Int.reduceSub, Int.reduceMul, Int.reduceNeg, fU, constAV_arr, cons_beq_nil, nil_beq_nil, fD, e1, strCells, hr1, hz1]); (case hcl => (simp only [evs, St.ev, constAV, evl]; (repeat (first | exact closeAVs_nil | (apply closeAVs_cons; (first | (apply close_own3; rfl) | (refine close_ownO rfl ?_; assumption) | rfl)))); done)); (case hu => rfl)))
              refine ⟨(i + 1, decide (qa = qb), decide (qa = 0)), ?hI7, ?hM7, Fgt.head (Nat.le_refl _) [true, true, false, false, true, true, true, true, true, false, false, false, false, false, false, false, false, false, false, false, false, false, false, false, false, false, false, false, false, false, true, true, true] ?hT7 ?hH7⟩
              case hT7 => first | (simp (disch := omega) only [hds, liveT, cleanAV, cleanCell, clean1, cleanBlk, reduceIte, Int.reduceSub, Int.reduceAdd, Int.reduceNeg]; done) | rfl
              case hH7 => first | (simp (disch := omega) only [hds, liveT, cleanAV, cleanCell, clean1, cleanBlk, reduceIte, Int.reduceSub, Int.reduceAdd, Int.reduceNeg]; done) | rfl
              · dsimp only; exact ⟨by omega, by rw [s1, ← Bool.and_assoc, ← hss]; rfl, by rw [z1, ← hzz]; rfl⟩
              · dsimp only; omega
      refine main _ rfl ?_
      rw [hlx, hly]
      by_cases h : (osl a).length = (osl b).length
      · simp [h]
      · have h' : ¬ ((osl a).length : Int) = ((osl b).length : Int) := by omega
        have e1 : (((osl a).length : Int) == ((osl b).length : Int)) = false := by simpa using h'
        have e2 : ((osl a).length == (osl b).length) = false := by simpa using h
        rw [e1, e2]
    · have c2' : fewB b = false := by simpa using c2
      rw [c2'] at h2
      refine pureC_of (rs := [(RV.tmp 4)]) Try.func8 (fun a w => Try.call8 a w) body8 cc8 (by kernel_rfl) ?_
      rw [Try.ntmps8]
      simp only [frs, Nat.reduceAdd, Nat.reduceSub]
      repeat (first | (with_reducible first | refine zw10 ?_ | refine zw1 ?_ | refine zw4 ?_ | refine zw18 ?_ | refine zw19 ?_ | refine zw11 ?_ | refine zw12 ?_ | refine zw14 ?_ | refine zw2 ?_ | refine zw5 ?_ | refine zw9 ?_ | refine zw13 ?_ | refine zw3 ?_ | refine zw6 ?_ | refine zw8 ?_ | refine zw15 ?_ | refine zw16 ?_ | refine zw17 ?_ | refine blk_o rfl ?_) | ((with_reducible first | refine zb1 mixed (fun K hK => ?_) | refine zb2 (fun K hK => ?_) | refine zb3 (fun K hK => ?_)); simp (disch := first | omega | (simp only [dls]; omega)) only [std, cev, cstep, St.ev, putT, AV.cells?, AV.int?, AV.bool?, AV.str?, readN, mkAV, putN, guardWant, bound, Value.oneCell', opO, putSt, reduceIte, reduceCtorEq, Int.reduceToNat, Nat.reduceAdd, Nat.reduceSub, Nat.reduceMul, Int.reduceAdd, Int.reduceSub, Int.reduceMul, Int.reduceNeg, fU, constAV_arr, cons_beq_nil, nil_beq_nil]; subst hK) | refine zcA (h1) rfl rfl rfl ?_ | (apply call_any_g (h2) rfl; (case hg => simp (disch := first | omega | (simp only [dls]; omega)) only [std, cev, cstep, St.ev, putT, AV.cells?, AV.int?, AV.bool?, AV.str?, readN, mkAV, putN, guardWant, bound, Value.oneCell', opO, putSt, reduceIte, reduceCtorEq, Int.reduceToNat, Nat.reduceAdd, Nat.reduceSub, Nat.reduceMul, Int.reduceAdd, Int.reduceSub, Int.reduceMul, Int.reduceNeg, fU, constAV_arr, cons_beq_nil, nil_beq_nil]); (case hcl => (simp only [evs, St.ev, constAV, evl]; (repeat (first | exact closeAVs_nil | (apply closeAVs_cons; (first | (apply close_own3; rfl) | (refine close_ownO rfl ?_; assumption) | rfl)))); done)); (case hu => rfl)) | refine zcA (hw) rfl rfl rfl ?_)
      exact ⟨_, rfl, rfl⟩
  · have c1' : fewB a = false := by simpa using c1
    rw [c1'] at h1
    refine pureC_of (rs := [(RV.tmp 4)]) Try.func8 (fun a w => Try.call8 a w) body8 cc8 (by kernel_rfl) ?_
    rw [Try.ntmps8]
    simp only [frs, Nat.reduceAdd, Nat.reduceSub]
    repeat (first | (with_reducible first | refine zw10 ?_ | refine zw1 ?_ | refine zw4 ?_ | refine zw18 ?_ | refine zw19 ?_ | refine zw11 ?_ | refine zw12 ?_ | refine zw14 ?_ | refine zw2 ?_ | refine zw5 ?_ | refine zw9 ?_ | refine zw13 ?_ | refine zw3 ?_ | refine zw6 ?_ | refine zw8 ?_ | refine zw15 ?_ | refine zw16 ?_ | refine zw17 ?_ | refine blk_o rfl ?_) | ((with_reducible first | refine zb1 mixed (fun K hK => ?_) | refine zb2 (fun K hK => ?_) | refine zb3 (fun K hK => ?_)); simp (disch := first | omega | (simp only [dls]; omega)) only [std, cev, cstep, St.ev, putT, AV.cells?, AV.int?, AV.bool?, AV.str?, readN, mkAV, putN, guardWant, bound, Value.oneCell', opO, putSt, reduceIte, reduceCtorEq, Int.reduceToNat, Nat.reduceAdd, Nat.reduceSub, Nat.reduceMul, Int.reduceAdd, Int.reduceSub, Int.reduceMul, Int.reduceNeg, fU, constAV_arr, cons_beq_nil, nil_beq_nil]; subst hK) | refine zcA (h1) rfl rfl rfl ?_ | refine zcA (hw) rfl rfl rfl ?_)
    exact ⟨_, rfl, rfl⟩

end Go.Proofs.Ytdhkdnmefeeclaa
set_option linter.unusedVariables false
set_option maxRecDepth 100000
set_option maxHeartbeats 4000000
namespace Go.Proofs.Ytdhkdnmefeeclaa
open Go Go.Am Go.Proofs Go.RowKit Go.Off
open Go.ChangeShapes Go.WideShapes Go.ChangeAt
open Go.ChangeMaps (open_string shut_string)

set_option maxRecDepth 100000 in
theorem vecTells_lifted (os : Os) (started : os.Started) (H : Type) (enc : TypeId × Value → H) :
    ReturnsInHanded {} Try.checked os 8 .any (Rows.vecTellsSpec.pre6 enc Try.prog Try.f8 Rows.vecTellsRow.domain false) (Rows.vecTellsSpec.post enc Try.prog Try.f8 false true false false) := by
  refine returnsInHanded_of_change (C := Try.checked) ownK started (by kernel_rfl) Try.func8
    (ChangeSpec.witness6 (enc := enc) (C := Try.checked) false ⟨#[], #[.slice none 0 0, .slice none 0 0], []⟩ 8 (by kernel_rfl) (by kernel_rfl) (by kernel_rfl) (by kernel_rfl)) ?_
  intro W base args ds gs before hval0 hW hcnd _
  have hval : ∀ (j : Nat) t v, Try.f8.params[j]? = some t → args[j]? = some v → Value.okWide Try.prog W .any base t v := hval0
  have hW' := hW
  obtain ⟨p, q, hA0, hV, rfl, hfz, hnd⟩ := hW
  have hA : DataW.TrodAll enc Try.prog W 0 (fun _ => true) true Try.f8.params.toList args.toList ds p := hA0
  rw [Try.params8] at hA hval
  obtain ⟨v0, vs0, d0, ds0, p0, q0, hargs, rfl, rfl, h0, r0⟩ := trodAll_cons hA
  obtain ⟨v1, vs1, d1, ds1, p1, q1, rfl, rfl, rfl, h1, r1⟩ := trodAll_cons r0
  obtain ⟨rfl, rfl, rfl⟩ := trodAll_nil r1
  obtain rfl : args = #[v0, v1] := by cases args; simp_all
  obtain ⟨rfl, rfl⟩ := trodVars_none hV
  obtain ⟨x0, l0, c0, rfl⟩ := okWide_slice Try.underlying22 (hval 0 22 v0 rfl rfl)
  have lt0 : ∀ x ∈ p0, x.block < W.heap.size := by obtain ⟨m, hm⟩ := h0; exact DataW.trod_lt m _ _ _ hm
  obtain ⟨x1, l1, c1, rfl⟩ := okWide_slice Try.underlying22 (hval 1 22 v1 rfl rfl)
  have lt1 : ∀ x ∈ p1, x.block < W.heap.size := by obtain ⟨m, hm⟩ := h1; exact DataW.trod_lt m _ _ _ hm
  obtain ⟨y0, ⟨a0, e0⟩, w0⟩ := avr_cell rd_vec h0 rfl
  obtain ⟨y1, ⟨a1, e1⟩, w1⟩ := avr_cell rd_vec h1 rfl
  cases e0
  cases e1
  clear hA0 hval0
  refine (law_calls (vecTells_C a0 a1) (.cons w0 (.cons w1 .nil))).mono fun e W' ⟨he, bel⟩ => ?_
  subst he
  exact ⟨_, rfl, _, _, _, [], _, [], hW', trodAll_mk1 (shut_bool Try.underlying4 _), (trodAll_cons_mk (Below.trod laidK (by kernel_rfl) (of_decide_eq_true (by kernel_rfl)) h0 bel lt0) (trodAll_cons_mk (Below.trod laidK (by kernel_rfl) (of_decide_eq_true (by kernel_rfl)) h1 bel lt1) trodAll_mk0)), rfl, bel.frame _, fun h => by cases h⟩

theorem vecTells_k0 : Rows.vecTellsRow.wf (OpenSpec.ofChange Rows.vecTellsSpec) = true := by kernel_rfl
theorem vecTells_k3 : Try.f8.params.all (Try.prog.readableRec ·) = true := by kernel_rfl
theorem vecTells_k4 : namedTie Try.prog Rows.vecTellsRow.named Rows.vecTellsSpec.vars = true := by kernel_rfl
theorem vecTells_k5 : (Rows.vecTellsRow.stops == []) = true := by kernel_rfl
theorem vecTells_k7 : (Rows.vecTellsRow.knobs == []) = true := by kernel_rfl
theorem vecTells_k9 : (Rows.vecTellsRow.inPlace == Try.prog.inPlace 8) = true := by kernel_rfl
theorem vecTells_k10 : (Rows.vecTellsRow.unfollowed == Try.prog.unfollowed 8) = true := by kernel_rfl
theorem vecTells_k11 : (Rows.vecTellsRow.recurses == Try.prog.recurses 8) = true := by kernel_rfl
theorem vecTells_k12 : (Rows.vecTellsRow.named == Try.prog.varsNamed 8) = true := by kernel_rfl
theorem vecTells_k13 : (Rows.vecTellsRow.maps == (Try.f8.params.toList ++ Rows.vecTellsSpec.plain.varTypes Try.prog).any (Try.prog.mapsRec ·)) = true := by kernel_rfl
theorem vecTells_k14 : (Rows.vecTellsRow.ifaces == (Try.f8.params.toList ++ Rows.vecTellsSpec.plain.varTypes Try.prog).any (Try.prog.ifacesRec ·)) = true := by kernel_rfl
theorem vecTells_k15 : (Rows.vecTellsRow.mapsOut == Try.prog.mapsAmong Try.f8.resultTypes.toList) = true := by kernel_rfl
theorem vecTells_k16 : (Rows.vecTellsRow.loops == (Try.f8.params.toList ++ Rows.vecTellsSpec.plain.varTypes Try.prog).any (Try.prog.loopsFrom ·)) = true := by kernel_rfl
theorem vecTells_k17 : (Rows.vecTellsRow.wideKeys == (Try.f8.params.toList ++ Rows.vecTellsSpec.plain.varTypes Try.prog ++ Try.f8.resultTypes.toList).any (Try.prog.wideKeysFrom ·)) = true := by kernel_rfl
theorem vecTells_k18 : Rows.vecTellsSpec.vars.all (Try.prog.varReadable ·) = true := by kernel_rfl
theorem vecTells_k19 : Try.f8.resultTypes.all (fun t => Try.prog.readableRec t && decide (t < Try.prog.types.size)) = true := by kernel_rfl
theorem vecTells_k20 : (Rows.vecTellsRow.ifacesOut == Try.f8.resultTypes.toList.any (Try.prog.ifacesRec ·)) = true := by kernel_rfl
theorem vecTells_k21 : (Rows.vecTellsRow.loopsOut == Try.f8.resultTypes.toList.any (Try.prog.loopsFrom ·)) = true := by kernel_rfl
theorem vecTells_k22 : (Rows.vecTellsRow.plainKeys == Try.prog.plainKeys) = true := by rw [kp22]; rfl
theorem vecTells_k23 : Rows.vecTellsRow.shortTexts.isNone = true := by kernel_rfl
theorem vecTells_k26 : (Rows.vecTellsRow.lifted == Try.prog.liftsFinal) = true := by rw [kp26]; rfl
theorem vecTells_k27 : (Try.prog.make == some Rows.vecTellsRow.make) = true := by rw [kp27]; rfl
theorem vecTells_k28 : (Rows.vecTellsRow.kinds == (if Rows.vecTellsRow.domain.isEmpty then [] else Try.f8.params.toList.map fun t => match Try.prog.underlying t with | some (.int k) => some k | _ => none)) = true := by kernel_rfl
theorem vecTells_k29 : (Rows.vecTellsRow.pinned == Rows.vecTellsRow.pinnedBy) = true := by kernel_rfl
theorem vecTells_k30 : (Rows.vecTellsRow.veiled == (Try.f8.params.toList ++ Rows.vecTellsSpec.plain.varTypes Try.prog ++ Try.f8.resultTypes.toList).any (Try.prog.veiledRec ·)) = true := by kernel_rfl
theorem vecTells_k31 : Rows.vecTellsRow.veiledFits Try.prog Try.f8.params.toList (Try.f8.params.toList ++ Rows.vecTellsSpec.plain.varTypes Try.prog ++ Try.f8.resultTypes.toList) = true := by kernel_rfl
theorem vecTells_facts : joinedFacts Try.prog 8 Try.f8 Rows.vecTellsSpec Rows.vecTellsRow = true := (andK (andK (andK (andK (andK (andK (andK (andK (andK (andK (andK (andK (andK (andK (andK (andK (andK (andK (andK (andK (andK (andK (andK (andK (andK (andK (andK (andK (andK (andK (andK vecTells_k0 kp1) kp2) vecTells_k3) vecTells_k4) vecTells_k5) kp6) vecTells_k7) kp8) vecTells_k9) vecTells_k10) vecTells_k11) vecTells_k12) vecTells_k13) vecTells_k14) vecTells_k15) vecTells_k16) vecTells_k17) vecTells_k18) vecTells_k19) vecTells_k20) vecTells_k21) vecTells_k22) vecTells_k23) kp24) kp25) vecTells_k26) vecTells_k27) vecTells_k28) vecTells_k29) vecTells_k30) vecTells_k31)
theorem vecTells_n1 : Try.prog.funcNamed Rows.vecTellsRow.func = some 8 := by kernel_rfl
theorem vecTells_n3 : Try.f8.isInstance Try.prog Rows.vecTellsRow.origin Rows.vecTellsRow.targs := of_decide_eq_true (by kernel_rfl)
theorem vecTells_n4 : Try.f8.isWrapper Try.prog Rows.vecTellsRow.wrapper Rows.vecTellsRow.mainSum := by unfold Func.isWrapper; first | (rw [if_pos (by decide +kernel)]; kernel_rfl) | (rw [if_neg (by decide +kernel)]; exact ⟨rfl, rfl⟩)
theorem vecTells_holds : Rows.VecTellsSaid :=
  OpenClaim.holds_of_wide 8 Try.f8 rfl rfl rfl rfl rfl rfl rfl ⟨rfl, rfl, rfl, rfl, rfl⟩ rfl rfl rfl rfl rfl vecTells_n1 Try.func8 vecTells_facts vecTells_n3 vecTells_n4
    (fun os started H enc _ => vecTells_lifted os started H enc)
#print axioms vecTells_holds
end Go.Proofs.Ytdhkdnmefeeclaa
