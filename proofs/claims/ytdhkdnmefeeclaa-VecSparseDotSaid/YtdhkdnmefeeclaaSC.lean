/- The law VecSparseDot: the walk. -/
import Derived.WalkKit
import Derived.ProofKit
import Derived.OpenShut
import Derived.ShutString
import Derived.ChangeOld
import Derived.Below
import Derived.Test.YtdhkdnmefeeclaaG6a
import Derived.Test.YtdhkdnmefeeclaaK0
import Derived.Test.YtdhkdnmefeeclaaL1
set_option linter.unusedSimpArgs false
set_option linter.unusedVariables false
set_option linter.unnecessarySimpa false
set_option linter.unusedSimpArgs false
set_option linter.unusedVariables false
set_option maxRecDepth 100000
set_option maxHeartbeats 4000000
namespace Go.Proofs.Ytdhkdnmefeeclaa
open Go Go.Am Go.Proofs Go.RowKit Go.Off

abbrev c5_k1 : CC := (CC.seq (CC.reg [⟨(some 36), none, (COp.mv (Operand.tmp 0))⟩, ⟨(some 37), none, (COp.mv (Operand.tmp 1))⟩, ⟨(some 38), none, (COp.callf (Operand.func 39) [(Operand.tmp 36), (Operand.tmp 37)])⟩, ⟨(some 39), none, (COp.load 2 true (Operand.tmp 5))⟩, ⟨(some 40), none, (COp.callf (Operand.func 32) [(Operand.tmp 38), (Operand.tmp 39)])⟩, ⟨(some 41), none, (COp.mv (Operand.tmp 40))⟩, ⟨(some 42), (some (41, true)), (COp.mv (Operand.tmp 1))⟩, ⟨(some 43), (some (41, true)), (COp.callf (Operand.func 28) [(Operand.tmp 42)])⟩, ⟨(some 44), (some (41, true)), (COp.mv (Operand.tmp 1))⟩, ⟨(some 45), (some (41, true)), (COp.callf (Operand.func 39) [(Operand.tmp 43), (Operand.tmp 44)])⟩, ⟨(some 46), (some (41, true)), (COp.mv (Operand.tmp 1))⟩, ⟨(some 47), (some (41, true)), (COp.callf (Operand.func 31) [(Operand.tmp 46)])⟩, ⟨(some 48), (some (41, true)), (COp.mv (Operand.tmp 1))⟩, ⟨(some 49), (some (41, true)), (COp.callf (Operand.func 31) [(Operand.tmp 48)])⟩, ⟨(some 50), (some (41, true)), (COp.callf (Operand.func 40) [(Operand.tmp 47), (Operand.tmp 49)])⟩, ⟨(some 51), (some (41, true)), (COp.callf (Operand.func 32) [(Operand.tmp 45), (Operand.tmp 50)])⟩, ⟨(some 52), none, (COp.pick (Operand.tmp 41) (Operand.tmp 51) (Operand.const (Value.bool false)))⟩, ⟨(some 53), none, (COp.mv (Operand.tmp 52))⟩, ⟨(some 54), (some (53, true)), (COp.callf (Operand.func 27) [])⟩, ⟨(some 55), none, (COp.pick (Operand.tmp 53) (Operand.tmp 54) (Operand.const (Value.bool false)))⟩, ⟨(some 4), none, (COp.mv (Operand.tmp 55))⟩]) CC.ret)
abbrev c5_b1 : CC := (CC.seq (CC.reg [⟨(some 21), none, (COp.bin BinOp.lss (Operand.tmp 20) (Operand.tmp 19))⟩]) (CC.seq (CC.cond (Operand.tmp 21) CC.skip (CC.exit 0)) (CC.seq (CC.block 1 (CC.seq (CC.reg [⟨(some 22), none, (COp.iaddr 4 none (Operand.tmp 18) (Operand.tmp 20))⟩, ⟨(some 23), none, (COp.load 4 true (Operand.tmp 22))⟩, ⟨(some 7), none, (COp.new 42 [(Value.int IntKind.i64 (0)), (Value.bool false), (Value.slice none 0 0), (Value.slice none 0 0)])⟩, ⟨none, none, (COp.store 4 (Operand.tmp 7) (Operand.tmp 23))⟩]) (CC.reg [⟨(some 24), none, (COp.load 2 true (Operand.tmp 5))⟩, ⟨(some 25), none, (COp.faddr 1 (Operand.tmp 7))⟩, ⟨(some 26), none, (COp.load 3 true (Operand.tmp 25))⟩, ⟨(some 27), none, (COp.callf (Operand.func 35) [(Operand.tmp 26)])⟩, ⟨(some 28), none, (COp.mv (Operand.tmp 1))⟩, ⟨(some 29), none, (COp.callf (Operand.func 31) [(Operand.tmp 28)])⟩, ⟨(some 30), none, (COp.faddr 0 (Operand.tmp 7))⟩, ⟨(some 31), none, (COp.load 1 false (Operand.tmp 30))⟩, ⟨(some 32), none, (COp.callf (Operand.func 38) [(Operand.tmp 29), (Operand.tmp 31)])⟩, ⟨(some 33), none, (COp.callf (Operand.func 37) [(Operand.tmp 27), (Operand.tmp 32)])⟩, ⟨(some 34), none, (COp.callf (Operand.func 36) [(Operand.tmp 24), (Operand.tmp 33)])⟩, ⟨none, none, (COp.store 2 (Operand.tmp 5) (Operand.tmp 34))⟩]))) (CC.reg [⟨(some 35), none, (COp.bin BinOp.add (Operand.tmp 20) (Operand.const (Value.int IntKind.i64 (1))))⟩, ⟨(some 20), none, (COp.mv (Operand.tmp 35))⟩]))))
abbrev c5 : CC := (CC.seq (CC.reg [⟨(some 4), none, (COp.mv (Operand.const (Value.bool false)))⟩]) (CC.seq (CC.seq (CC.reg [⟨(some 8), none, (COp.mv (Operand.tmp 0))⟩, ⟨(some 9), none, (COp.callf (Operand.func 34) [(Operand.tmp 8)])⟩, ⟨(some 10), none, (COp.un UnOp.not (Operand.tmp 9))⟩, ⟨(some 11), none, (COp.mv (Operand.tmp 10))⟩, ⟨(some 12), (some (11, false)), (COp.mv (Operand.tmp 1))⟩, ⟨(some 13), (some (11, false)), (COp.callf (Operand.func 26) [(Operand.tmp 12)])⟩, ⟨(some 14), (some (11, false)), (COp.un UnOp.not (Operand.tmp 13))⟩, ⟨(some 15), none, (COp.pick (Operand.tmp 11) (Operand.const (Value.bool true)) (Operand.tmp 14))⟩]) (CC.cond (Operand.tmp 15) (CC.seq (CC.reg [⟨(some 16), none, (COp.callf (Operand.func 27) [])⟩, ⟨(some 4), none, (COp.mv (Operand.tmp 16))⟩]) CC.ret) CC.skip)) (CC.seq (CC.reg [⟨(some 17), none, (COp.build [(Value.string ⟨#[]⟩), (Value.string ⟨#[]⟩)] [(0, (1, (Operand.const (Value.string ⟨#[48]⟩)))), (1, (1, (Operand.const (Value.string ⟨#[49]⟩))))])⟩, ⟨(some 5), none, (COp.new 33 [(Value.string ⟨#[]⟩), (Value.string ⟨#[]⟩)])⟩, ⟨none, none, (COp.store 2 (Operand.tmp 5) (Operand.tmp 17))⟩]) (CC.seq (CC.seq (CC.reg [⟨(some 18), none, (COp.mv (Operand.tmp 0))⟩, ⟨(some 19), none, (COp.len false (Operand.tmp 18))⟩, ⟨(some 20), none, (COp.mv (Operand.const (Value.int IntKind.i64 (0))))⟩]) (CC.block 0 (CC.loop c5_b1))) c5_k1))))
theorem cc5 : ccode Try.prog [] (Try.f5.body.getD .skip) = some c5 := by kernel_rfl
theorem body5 : Try.f5.body = some (Try.f5.body.getD .skip) := rfl

theorem vecSparseDot_C (l : TV) (a : VV) : PureC Try.prog 5 [aT l, aV a] (.ret (aB true)) := by
  have h1 := fewer_C l
  have h2 := few_C a
  have hw := awake5_C
  by_cases c1 : fewerB l = true
  · rw [c1] at h1
    by_cases c2 : fewB a = true
    · rw [c2] at h2
      have fl := fewerB_fits c1
      have fa := fewB_fits c2
      have fl1 := fl.1
      have ra := row_C a 8 3 fa (by decide) (by decide)
      have sd := vsdot_C l a 8 3 fl fa (by decide) (by decide) (by decide)
      have fsd : ∀ k, k ≤ (osl l).length → FitsQ (sdotTo l a k) 57 := fun k hk => (fitsQ_sdot fl fa (by decide) k hk).mono (by have := Nat.mul_le_mul_right 7 (Nat.le_trans hk fl1); omega)
      have is1 := is_C (sdotQ l a) (sdotQ l a) ((fsd _ (Nat.le_refl _)).mono (by decide))
      rw [decide_eq_true rfl] at is1
      have sp := vsparse_R a 8 3 fa (by decide) (by decide)
      have sd2 := vsdot_C _ a 8 3 (fits_sparse fa (by decide)) fa (by decide) (by decide) (by decide)
      rw [sdotQ_sparse] at sd2
      have dd := ddot_C _ _ 8 3 (fitsD_rowD fa (by decide)) (fitsD_rowD fa (by decide)) (by decide) (by decide) (by decide)
      rw [ddot_row] at dd
      have is2 := is_C (dotV a a) (dotV a a) ((fits_dotV fa fa (by decide)).mono (by decide))
      rw [decide_eq_true rfl] at is2
      have hat : ∀ k, PureC Try.prog 38 [aD (rowO (rowD a)), aI k] (.ret (aQ (qAtI a k))) := fun k => by rw [← dAtI_rowD]; exact dat_C _ k
      have z1 : decZ (sdotTo l a 0).num = [48] := rfl
      have z2 : dec (sdotTo l a 0).den = [49] := dec_one
      unfold sdotQ at sd is1
      generalize rowO (rowD a) = x at *
      generalize rowO (sparseQ a) = ts at *
      refine pureC_of (rs := [(RV.tmp 4)]) Try.func5 (fun a w => Try.call5 a w) body5 cc5 (by kernel_rfl) ?_
      rw [Try.ntmps5]
      simp only [frs, Nat.reduceAdd, Nat.reduceSub]
      repeat (first | (with_reducible first | refine zw10 ?_ | refine zw1 ?_ | refine zw4 ?_ | refine zw18 ?_ | refine zw19 ?_ | refine zw11 ?_ | refine zw12 ?_ | refine zw14 ?_ | refine zw2 ?_ | refine zw5 ?_ | refine zw9 ?_ | refine zw13 ?_ | refine zw3 ?_ | refine zw6 ?_ | refine zw8 ?_ | refine zw15 ?_ | refine zw16 ?_ | refine zw17 ?_ | refine blk_o rfl ?_) | ((with_reducible first | refine zb1 mixed (fun K hK => ?_) | refine zb2 (fun K hK => ?_) | refine zb3 (fun K hK => ?_)); simp (disch := first | omega | (simp only [dls]; omega)) only [std, cev, cstep, St.ev, putT, AV.cells?, AV.int?, AV.bool?, AV.str?, readN, mkAV, putN, guardWant, bound, Value.oneCell', opO, putSt, reduceIte, reduceCtorEq, Int.reduceToNat, Nat.reduceAdd, Nat.reduceSub, Nat.reduceMul, Int.reduceAdd, Int.reduceSub, Int.reduceMul, Int.reduceNeg, fU, constAV_arr, cons_beq_nil, nil_beq_nil]; subst hK) | refine zcA (h1) rfl rfl rfl ?_ | (apply call_any_g (h2) rfl; (case hg => simp (disch := first | omega | (simp only [dls]; omega)) only [std, cev, cstep, St.ev, putT, AV.cells?, AV.int?, AV.bool?, AV.str?, readN, mkAV, putN, guardWant, bound, Value.oneCell', opO, putSt, reduceIte, reduceCtorEq, Int.reduceToNat, Nat.reduceAdd, Nat.reduceSub, Nat.reduceMul, Int.reduceAdd, Int.reduceSub, Int.reduceMul, Int.reduceNeg, fU, constAV_arr, cons_beq_nil, nil_beq_nil]); (case hcl => (simp only [evs, St.ev, constAV, evl]; (repeat (first | exact closeAVs_nil | (apply closeAVs_cons; (first | (apply close_own3; rfl) | (refine close_ownO rfl ?_; assumption) | rfl)))); done)); (case hu => rfl)))
      refine awp_loop (fun (zz : Nat) => ⟨(aT l :: aV a :: .junk :: .junk :: aB false :: .one (.ptr 0 0 0 0) :: .junk :: .junk :: .junk :: .junk :: .junk :: .junk :: .junk :: .junk :: .junk :: .junk :: .junk :: .junk :: aT l :: aI (osl l).length :: aI zz :: .junk :: .junk :: .junk :: .junk :: .junk :: .junk :: .junk :: .junk :: .junk :: .junk :: .junk :: .junk :: .junk :: .junk :: .junk :: .junk :: .junk :: .junk :: .junk :: .junk :: .junk :: .junk :: .junk :: .junk :: .junk :: .junk :: .junk :: .junk :: .junk :: .junk :: .junk :: .junk :: .junk :: .junk :: .junk :: []), [⟨0, 33, 2, [[.c (.str (decZ (sdotTo l a zz).num)), .c (.str (dec (sdotTo l a zz).den))]], true, true⟩]⟩) (fun (zz : Nat) => zz ≤ (osl l).length) (fun (zz : Nat) => (osl l).length - zz) (0) ?hI1 (Fgt.head (Nat.zero_le 1) [true, true, false, false, true, true, false, false, false, false, false, false, false, false, false, false, false, false, true, true, true] ?hT1 ?hH1) ?hB1
      case hT1 => first | (simp (disch := omega) only [hds, liveT, cleanAV, cleanCell, clean1, cleanBlk, reduceIte, Int.reduceSub, Int.reduceAdd, Int.reduceNeg, z1, z2]; done) | rfl
      case hH1 => first | (simp (disch := omega) only [hds, liveT, cleanAV, cleanCell, clean1, cleanBlk, reduceIte, Int.reduceSub, Int.reduceAdd, Int.reduceNeg, z1, z2]; done) | rfl
      · exact Nat.zero_le _
      intro i hi
      by_cases him : i = (osl l).length
      · rw [← him] at sd is1
        generalize rawQ (sdotTo l a i) = q1 at *
        generalize rawQ (dotV a a) = q2 at *
        repeat (first | (with_reducible first | refine zw10 ?_ | refine zw1 ?_ | refine zw4 ?_ | refine zw18 ?_ | refine zw19 ?_ | refine zw11 ?_ | refine zw12 ?_ | refine zw14 ?_ | refine zw2 ?_ | refine zw5 ?_ | refine zw9 ?_ | refine zw13 ?_ | refine zw3 ?_ | refine zw6 ?_ | refine zw8 ?_ | refine zw15 ?_ | refine zw16 ?_ | refine zw17 ?_ | refine blk_o rfl ?_) | ((with_reducible first | refine zb1 mixed (fun K hK => ?_) | refine zb2 (fun K hK => ?_) | refine zb3 (fun K hK => ?_)); simp (disch := first | omega | (simp only [dls]; omega)) only [std, cev, cstep, St.ev, putT, AV.cells?, AV.int?, AV.bool?, AV.str?, readN, mkAV, putN, guardWant, bound, Value.oneCell', opO, putSt, reduceIte, reduceCtorEq, Int.reduceToNat, Nat.reduceAdd, Nat.reduceSub, Nat.reduceMul, Int.reduceAdd, Int.reduceSub, Int.reduceMul, Int.reduceNeg, fU, constAV_arr, cons_beq_nil, nil_beq_nil]; subst hK) | refine zcA (sd) rfl rfl rfl ?_ | refine zcA (is1) rfl rfl rfl ?_ | (apply call_any_g (sp) rfl; (case hg => simp (disch := first | omega | (simp only [dls]; omega)) only [std, cev, cstep, St.ev, putT, AV.cells?, AV.int?, AV.bool?, AV.str?, readN, mkAV, putN, guardWant, bound, Value.oneCell', opO, putSt, reduceIte, reduceCtorEq, Int.reduceToNat, Nat.reduceAdd, Nat.reduceSub, Nat.reduceMul, Int.reduceAdd, Int.reduceSub, Int.reduceMul, Int.reduceNeg, fU, constAV_arr, cons_beq_nil, nil_beq_nil]); (case hcl => (simp only [evs, St.ev, constAV, evl]; (repeat (first | exact closeAVs_nil | (apply closeAVs_cons; (first | (apply close_own3; rfl) | (refine close_ownO rfl ?_; assumption) | rfl)))); done)); (case hu => rfl)) | (apply call_any_g (sd2) rfl; (case hg => simp (disch := first | omega | (simp only [dls]; omega)) only [std, cev, cstep, St.ev, putT, AV.cells?, AV.int?, AV.bool?, AV.str?, readN, mkAV, putN, guardWant, bound, Value.oneCell', opO, putSt, reduceIte, reduceCtorEq, Int.reduceToNat, Nat.reduceAdd, Nat.reduceSub, Nat.reduceMul, Int.reduceAdd, Int.reduceSub, Int.reduceMul, Int.reduceNeg, fU, constAV_arr, cons_beq_nil, nil_beq_nil]); (case hcl => (simp only [evs, St.ev, constAV, evl]; (repeat (first | exact closeAVs_nil | (apply closeAVs_cons; (first | (apply close_own3; rfl) | (refine close_ownO rfl ?_; assumption) | rfl)))); done)); (case hu => rfl)) | (apply call_any_g (ra) rfl; (case hg => simp (disch := first | omega | (simp only [dls]; omega)) only [std, cev, cstep, St.ev, putT, AV.cells?, AV.int?, AV.bool?, AV.str?, readN, mkAV, putN, guardWant, bound, Value.oneCell', opO, putSt, reduceIte, reduceCtorEq, Int.reduceToNat, Nat.reduceAdd, Nat.reduceSub, Nat.reduceMul, Int.reduceAdd, Int.reduceSub, Int.reduceMul, Int.reduceNeg, fU, constAV_arr, cons_beq_nil, nil_beq_nil]); (case hcl => (simp only [evs, St.ev, constAV, evl]; (repeat (first | exact closeAVs_nil | (apply closeAVs_cons; (first | (apply close_own3; rfl) | (refine close_ownO rfl ?_; assumption) | rfl)))); done)); (case hu => rfl)) | (apply call_any_g (dd) rfl; (case hg => simp (disch := first | omega | (simp only [dls]; omega)) only [std, cev, cstep, St.ev, putT, AV.cells?, AV.int?, AV.bool?, AV.str?, readN, mkAV, putN, guardWant, bound, Value.oneCell', opO, putSt, reduceIte, reduceCtorEq, Int.reduceToNat, Nat.reduceAdd, Nat.reduceSub, Nat.reduceMul, Int.reduceAdd, Int.reduceSub, Int.reduceMul, Int.reduceNeg, fU, constAV_arr, cons_beq_nil, nil_beq_nil]); (case hcl => (simp only [evs, St.ev, constAV, evl]; (repeat (first | exact closeAVs_nil | (apply closeAVs_cons; (first | (apply close_own3; rfl) | (refine close_ownO rfl ?_; assumption) | rfl)))); done)); (case hu => rfl)) | (apply call_any_g (is2) rfl; (case hg => simp (disch := first | omega | (simp only [dls]; omega)) only [std, cev, cstep, St.ev, putT, AV.cells?, AV.int?, AV.bool?, AV.str?, readN, mkAV, putN, guardWant, bound, Value.oneCell', opO, putSt, reduceIte, reduceCtorEq, Int.reduceToNat, Nat.reduceAdd, Nat.reduceSub, Nat.reduceMul, Int.reduceAdd, Int.reduceSub, Int.reduceMul, Int.reduceNeg, fU, constAV_arr, cons_beq_nil, nil_beq_nil]); (case hcl => (simp only [evs, St.ev, constAV, evl]; (repeat (first | exact closeAVs_nil | (apply closeAVs_cons; (first | (apply close_own3; rfl) | (refine close_ownO rfl ?_; assumption) | rfl)))); done)); (case hu => rfl)) | (apply call_any_g (hw) rfl; (case hg => simp (disch := first | omega | (simp only [dls]; omega)) only [std, cev, cstep, St.ev, putT, AV.cells?, AV.int?, AV.bool?, AV.str?, readN, mkAV, putN, guardWant, bound, Value.oneCell', opO, putSt, reduceIte, reduceCtorEq, Int.reduceToNat, Nat.reduceAdd, Nat.reduceSub, Nat.reduceMul, Int.reduceAdd, Int.reduceSub, Int.reduceMul, Int.reduceNeg, fU, constAV_arr, cons_beq_nil, nil_beq_nil]); (case hcl => (simp only [evs, St.ev, constAV, evl]; (repeat (first | exact closeAVs_nil | (apply closeAVs_cons; (first | (apply close_own3; rfl) | (refine close_ownO rfl ?_; assumption) | rfl)))); done)); (case hu => rfl)))
        exact ⟨_, rfl, rfl⟩
      · have hlt : i < (osl l).length := by omega
        have ft := fl.2 _ (List.getElem_mem hlt)
        have of1 := lof_C (osl l)[i].v (ft.mono (by decide))
        have at1 := hat (osl l)[i].at'
        have fq : FitsQ (qAtI a (osl l)[i].at') 3 := by
          unfold qAtI
          split
          · exact (fa.at _).val (by decide)
          · exact fitsQ_zero 3 (by decide)
        have m1 := qmul_C (osl l)[i].v.val (qAtI a (osl l)[i].at') ((ft.val (by decide)).mono (by decide)) (fq.mono (by decide))
        have a1 := qadd_C (sdotTo l a i) ((osl l)[i].v.val * qAtI a (osl l)[i].at') ((fsd i hi).mono (by decide)) (((ft.val (by decide)).mul fq).mono (by decide))
        have hnx := sdotTo_succ l a i
        rw [tAt_in hlt] at hnx
        rw [← hnx] at a1
        generalize (osl l)[i].v.val * qAtI a (osl l)[i].at' = pr at *
        generalize qAtI a (osl l)[i].at' = qa at *
        repeat (first | (with_reducible first | refine zw10 ?_ | refine zw1 ?_ | refine zw4 ?_ | refine zw18 ?_ | refine zw19 ?_ | refine zw11 ?_ | refine zw12 ?_ | refine zw14 ?_ | refine zw2 ?_ | refine zw5 ?_ | refine zw9 ?_ | refine zw13 ?_ | refine zw3 ?_ | refine zw6 ?_ | refine zw8 ?_ | refine zw15 ?_ | refine zw16 ?_ | refine zw17 ?_ | refine blk_o rfl ?_) | ((with_reducible first | refine zb1 mixed (fun K hK => ?_) | refine zb2 (fun K hK => ?_) | refine zb3 (fun K hK => ?_)); simp (disch := first | omega | (simp only [dls]; omega)) only [std, cev, cstep, St.ev, putT, AV.cells?, AV.int?, AV.bool?, AV.str?, readN, mkAV, putN, guardWant, bound, Value.oneCell', opO, putSt, reduceIte, reduceCtorEq, Int.reduceToNat, Nat.reduceAdd, Nat.reduceSub, Nat.reduceMul, Int.reduceAdd, Int.reduceSub, Int.reduceMul, Int.reduceNeg, fU, constAV_arr, cons_beq_nil, nil_beq_nil, fT]; subst hK) | refine zcA (of1) rfl rfl rfl ?_ | refine zcA (ra) rfl rfl rfl ?_ | refine zcA (at1) rfl rfl rfl ?_ | refine zcA (m1) rfl rfl rfl ?_ | refine zcA (a1) rfl rfl rfl ?_)
        refine ⟨(i + 1), ?hI2, ?hM2, Fgt.head (Nat.zero_le 1) [true, true, false, false, true, true, false, false, false, false, false, false, false, false, false, false, false, false, true, true, true] ?hT2 ?hH2⟩
        case hT2 => first | (simp (disch := omega) only [hds, liveT, cleanAV, cleanCell, clean1, cleanBlk, reduceIte, Int.reduceSub, Int.reduceAdd, Int.reduceNeg]; done) | rfl
        case hH2 => first | (simp (disch := omega) only [hds, liveT, cleanAV, cleanCell, clean1, cleanBlk, reduceIte, Int.reduceSub, Int.reduceAdd, Int.reduceNeg]; done) | rfl
        · exact Nat.succ_le_of_lt hlt
        · show (osl l).length - (i + 1) < (osl l).length - i; omega
    · have c2' : fewB a = false := by simpa using c2
      rw [c2'] at h2
      refine pureC_of (rs := [(RV.tmp 4)]) Try.func5 (fun a w => Try.call5 a w) body5 cc5 (by kernel_rfl) ?_
      rw [Try.ntmps5]
      simp only [frs, Nat.reduceAdd, Nat.reduceSub]
      repeat (first | (with_reducible first | refine zw10 ?_ | refine zw1 ?_ | refine zw4 ?_ | refine zw18 ?_ | refine zw19 ?_ | refine zw11 ?_ | refine zw12 ?_ | refine zw14 ?_ | refine zw2 ?_ | refine zw5 ?_ | refine zw9 ?_ | refine zw13 ?_ | refine zw3 ?_ | refine zw6 ?_ | refine zw8 ?_ | refine zw15 ?_ | refine zw16 ?_ | refine zw17 ?_ | refine blk_o rfl ?_) | ((with_reducible first | refine zb1 mixed (fun K hK => ?_) | refine zb2 (fun K hK => ?_) | refine zb3 (fun K hK => ?_)); simp (disch := first | omega | (simp only [dls]; omega)) only [std, cev, cstep, St.ev, putT, AV.cells?, AV.int?, AV.bool?, AV.str?, readN, mkAV, putN, guardWant, bound, Value.oneCell', opO, putSt, reduceIte, reduceCtorEq, Int.reduceToNat, Nat.reduceAdd, Nat.reduceSub, Nat.reduceMul, Int.reduceAdd, Int.reduceSub, Int.reduceMul, Int.reduceNeg, fU, constAV_arr, cons_beq_nil, nil_beq_nil]; subst hK) | refine zcA (h1) rfl rfl rfl ?_ | (apply call_any_g (h2) rfl; (case hg => simp (disch := first | omega | (simp only [dls]; omega)) only [std, cev, cstep, St.ev, putT, AV.cells?, AV.int?, AV.bool?, AV.str?, readN, mkAV, putN, guardWant, bound, Value.oneCell', opO, putSt, reduceIte, reduceCtorEq, Int.reduceToNat, Nat.reduceAdd, Nat.reduceSub, Nat.reduceMul, Int.reduceAdd, Int.reduceSub, Int.reduceMul, Int.reduceNeg, fU, constAV_arr, cons_beq_nil, nil_beq_nil]); (case hcl => (simp only [evs, St.ev, constAV, evl]; (repeat (first | exact closeAVs_nil | (apply closeAVs_cons; (first | (apply close_own3; rfl) | (refine close_ownO rfl ?_; assumption) | rfl)))); done)); (case hu => rfl)) | refine zcA (hw) rfl rfl rfl ?_)
      exact ⟨_, rfl, rfl⟩
  · have c1' : fewerB l = false := by simpa using c1
    rw [c1'] at h1
    refine pureC_of (rs := [(RV.tmp 4)]) Try.func5 (fun a w => Try.call5 a w) body5 cc5 (by kernel_rfl) ?_
    rw [Try.ntmps5]
    simp only [frs, Nat.reduceAdd, Nat.reduceSub]
    repeat (first | (with_reducible first | refine zw10 ?_ | refine zw1 ?_ | refine zw4 ?_ | refine zw18 ?_ | refine zw19 ?_ | refine zw11 ?_ | refine zw12 ?_ | refine zw14 ?_ | refine zw2 ?_ | refine zw5 ?_ | refine zw9 ?_ | refine zw13 ?_ | refine zw3 ?_ | refine zw6 ?_ | refine zw8 ?_ | refine zw15 ?_ | refine zw16 ?_ | refine zw17 ?_ | refine blk_o rfl ?_) | ((with_reducible first | refine zb1 mixed (fun K hK => ?_) | refine zb2 (fun K hK => ?_) | refine zb3 (fun K hK => ?_)); simp (disch := first | omega | (simp only [dls]; omega)) only [std, cev, cstep, St.ev, putT, AV.cells?, AV.int?, AV.bool?, AV.str?, readN, mkAV, putN, guardWant, bound, Value.oneCell', opO, putSt, reduceIte, reduceCtorEq, Int.reduceToNat, Nat.reduceAdd, Nat.reduceSub, Nat.reduceMul, Int.reduceAdd, Int.reduceSub, Int.reduceMul, Int.reduceNeg, fU, constAV_arr, cons_beq_nil, nil_beq_nil]; subst hK) | refine zcA (h1) rfl rfl rfl ?_ | refine zcA (hw) rfl rfl rfl ?_)
    exact ⟨_, rfl, rfl⟩

end Go.Proofs.Ytdhkdnmefeeclaa
set_option linter.unusedVariables false
set_option maxRecDepth 100000
set_option maxHeartbeats 4000000
namespace Go.Proofs.Ytdhkdnmefeeclaa
open Go Go.Am Go.Proofs Go.RowKit Go.Off
open Go.ChangeShapes Go.WideShapes Go.ChangeAt
open Go.ChangeMaps (open_string shut_string)

set_option maxRecDepth 100000 in
theorem vecSparseDot_lifted (os : Os) (started : os.Started) (H : Type) (enc : TypeId × Value → H) :
    ReturnsInHanded {} Try.checked os 5 .any (Rows.vecSparseDotSpec.pre6 enc Try.prog Try.f5 Rows.vecSparseDotRow.domain false) (Rows.vecSparseDotSpec.post enc Try.prog Try.f5 false true false false) := by
  refine returnsInHanded_of_change (C := Try.checked) ownK started (by kernel_rfl) Try.func5
    (ChangeSpec.witness6 (enc := enc) (C := Try.checked) false ⟨#[], #[.slice none 0 0, .slice none 0 0], []⟩ 8 (by kernel_rfl) (by kernel_rfl) (by kernel_rfl) (by kernel_rfl)) ?_
  intro W base args ds gs before hval0 hW hcnd _
  have hval : ∀ (j : Nat) t v, Try.f5.params[j]? = some t → args[j]? = some v → Value.okWide Try.prog W .any base t v := hval0
  have hW' := hW
  obtain ⟨p, q, hA0, hV, rfl, hfz, hnd⟩ := hW
  have hA : DataW.TrodAll enc Try.prog W 0 (fun _ => true) true Try.f5.params.toList args.toList ds p := hA0
  rw [Try.params5] at hA hval
  obtain ⟨v0, vs0, d0, ds0, p0, q0, hargs, rfl, rfl, h0, r0⟩ := trodAll_cons hA
  obtain ⟨v1, vs1, d1, ds1, p1, q1, rfl, rfl, rfl, h1, r1⟩ := trodAll_cons r0
  obtain ⟨rfl, rfl, rfl⟩ := trodAll_nil r1
  obtain rfl : args = #[v0, v1] := by cases args; simp_all
  obtain ⟨rfl, rfl⟩ := trodVars_none hV
  obtain ⟨x0, l0, c0, rfl⟩ := okWide_slice Try.underlying25 (hval 0 25 v0 rfl rfl)
  have lt0 : ∀ x ∈ p0, x.block < W.heap.size := by obtain ⟨m, hm⟩ := h0; exact DataW.trod_lt m _ _ _ hm
  obtain ⟨x1, l1, c1, rfl⟩ := okWide_slice Try.underlying22 (hval 1 22 v1 rfl rfl)
  have lt1 : ∀ x ∈ p1, x.block < W.heap.size := by obtain ⟨m, hm⟩ := h1; exact DataW.trod_lt m _ _ _ hm
  obtain ⟨y0, ⟨a0, b0, e0⟩, w0⟩ := avr_cell rd_terms h0 rfl
  obtain ⟨y1, ⟨a1, e1⟩, w1⟩ := avr_cell rd_vec h1 rfl
  cases e0
  cases e1
  clear hA0 hval0
  refine (law_calls (vecSparseDot_C a0 a1) (.cons w0 (.cons w1 .nil))).mono fun e W' ⟨he, bel⟩ => ?_
  subst he
  exact ⟨_, rfl, _, _, _, [], _, [], hW', trodAll_mk1 (shut_bool Try.underlying4 _), (trodAll_cons_mk (Below.trod laidK (by kernel_rfl) (of_decide_eq_true (by kernel_rfl)) h0 bel lt0) (trodAll_cons_mk (Below.trod laidK (by kernel_rfl) (of_decide_eq_true (by kernel_rfl)) h1 bel lt1) trodAll_mk0)), rfl, bel.frame _, fun h => by cases h⟩

theorem vecSparseDot_k0 : Rows.vecSparseDotRow.wf (OpenSpec.ofChange Rows.vecSparseDotSpec) = true := by kernel_rfl
theorem vecSparseDot_k3 : Try.f5.params.all (Try.prog.readableRec ·) = true := by kernel_rfl
theorem vecSparseDot_k4 : namedTie Try.prog Rows.vecSparseDotRow.named Rows.vecSparseDotSpec.vars = true := by kernel_rfl
theorem vecSparseDot_k5 : (Rows.vecSparseDotRow.stops == []) = true := by kernel_rfl
theorem vecSparseDot_k7 : (Rows.vecSparseDotRow.knobs == []) = true := by kernel_rfl
theorem vecSparseDot_k9 : (Rows.vecSparseDotRow.inPlace == Try.prog.inPlace 5) = true := by kernel_rfl
theorem vecSparseDot_k10 : (Rows.vecSparseDotRow.unfollowed == Try.prog.unfollowed 5) = true := by kernel_rfl
theorem vecSparseDot_k11 : (Rows.vecSparseDotRow.recurses == Try.prog.recurses 5) = true := by kernel_rfl
theorem vecSparseDot_k12 : (Rows.vecSparseDotRow.named == Try.prog.varsNamed 5) = true := by kernel_rfl
theorem vecSparseDot_k13 : (Rows.vecSparseDotRow.maps == (Try.f5.params.toList ++ Rows.vecSparseDotSpec.plain.varTypes Try.prog).any (Try.prog.mapsRec ·)) = true := by kernel_rfl
theorem vecSparseDot_k14 : (Rows.vecSparseDotRow.ifaces == (Try.f5.params.toList ++ Rows.vecSparseDotSpec.plain.varTypes Try.prog).any (Try.prog.ifacesRec ·)) = true := by kernel_rfl
theorem vecSparseDot_k15 : (Rows.vecSparseDotRow.mapsOut == Try.prog.mapsAmong Try.f5.resultTypes.toList) = true := by kernel_rfl
theorem vecSparseDot_k16 : (Rows.vecSparseDotRow.loops == (Try.f5.params.toList ++ Rows.vecSparseDotSpec.plain.varTypes Try.prog).any (Try.prog.loopsFrom ·)) = true := by kernel_rfl
theorem vecSparseDot_k17 : (Rows.vecSparseDotRow.wideKeys == (Try.f5.params.toList ++ Rows.vecSparseDotSpec.plain.varTypes Try.prog ++ Try.f5.resultTypes.toList).any (Try.prog.wideKeysFrom ·)) = true := by kernel_rfl
theorem vecSparseDot_k18 : Rows.vecSparseDotSpec.vars.all (Try.prog.varReadable ·) = true := by kernel_rfl
theorem vecSparseDot_k19 : Try.f5.resultTypes.all (fun t => Try.prog.readableRec t && decide (t < Try.prog.types.size)) = true := by kernel_rfl
theorem vecSparseDot_k20 : (Rows.vecSparseDotRow.ifacesOut == Try.f5.resultTypes.toList.any (Try.prog.ifacesRec ·)) = true := by kernel_rfl
theorem vecSparseDot_k21 : (Rows.vecSparseDotRow.loopsOut == Try.f5.resultTypes.toList.any (Try.prog.loopsFrom ·)) = true := by kernel_rfl
theorem vecSparseDot_k22 : (Rows.vecSparseDotRow.plainKeys == Try.prog.plainKeys) = true := by rw [kp22]; rfl
theorem vecSparseDot_k23 : Rows.vecSparseDotRow.shortTexts.isNone = true := by kernel_rfl
theorem vecSparseDot_k26 : (Rows.vecSparseDotRow.lifted == Try.prog.liftsFinal) = true := by rw [kp26]; rfl
theorem vecSparseDot_k27 : (Try.prog.make == some Rows.vecSparseDotRow.make) = true := by rw [kp27]; rfl
theorem vecSparseDot_k28 : (Rows.vecSparseDotRow.kinds == (if Rows.vecSparseDotRow.domain.isEmpty then [] else Try.f5.params.toList.map fun t => match Try.prog.underlying t with | some (.int k) => some k | _ => none)) = true := by kernel_rfl
theorem vecSparseDot_k29 : (Rows.vecSparseDotRow.pinned == Rows.vecSparseDotRow.pinnedBy) = true := by kernel_rfl
theorem vecSparseDot_k30 : (Rows.vecSparseDotRow.veiled == (Try.f5.params.toList ++ Rows.vecSparseDotSpec.plain.varTypes Try.prog ++ Try.f5.resultTypes.toList).any (Try.prog.veiledRec ·)) = true := by kernel_rfl
theorem vecSparseDot_k31 : Rows.vecSparseDotRow.veiledFits Try.prog Try.f5.params.toList (Try.f5.params.toList ++ Rows.vecSparseDotSpec.plain.varTypes Try.prog ++ Try.f5.resultTypes.toList) = true := by kernel_rfl
theorem vecSparseDot_facts : joinedFacts Try.prog 5 Try.f5 Rows.vecSparseDotSpec Rows.vecSparseDotRow = true := (andK (andK (andK (andK (andK (andK (andK (andK (andK (andK (andK (andK (andK (andK (andK (andK (andK (andK (andK (andK (andK (andK (andK (andK (andK (andK (andK (andK (andK (andK (andK vecSparseDot_k0 kp1) kp2) vecSparseDot_k3) vecSparseDot_k4) vecSparseDot_k5) kp6) vecSparseDot_k7) kp8) vecSparseDot_k9) vecSparseDot_k10) vecSparseDot_k11) vecSparseDot_k12) vecSparseDot_k13) vecSparseDot_k14) vecSparseDot_k15) vecSparseDot_k16) vecSparseDot_k17) vecSparseDot_k18) vecSparseDot_k19) vecSparseDot_k20) vecSparseDot_k21) vecSparseDot_k22) vecSparseDot_k23) kp24) kp25) vecSparseDot_k26) vecSparseDot_k27) vecSparseDot_k28) vecSparseDot_k29) vecSparseDot_k30) vecSparseDot_k31)
theorem vecSparseDot_n1 : Try.prog.funcNamed Rows.vecSparseDotRow.func = some 5 := by kernel_rfl
theorem vecSparseDot_n3 : Try.f5.isInstance Try.prog Rows.vecSparseDotRow.origin Rows.vecSparseDotRow.targs := of_decide_eq_true (by kernel_rfl)
theorem vecSparseDot_n4 : Try.f5.isWrapper Try.prog Rows.vecSparseDotRow.wrapper Rows.vecSparseDotRow.mainSum := by unfold Func.isWrapper; first | (rw [if_pos (by decide +kernel)]; kernel_rfl) | (rw [if_neg (by decide +kernel)]; exact ⟨rfl, rfl⟩)
theorem vecSparseDot_holds : Rows.VecSparseDotSaid :=
  OpenClaim.holds_of_wide 5 Try.f5 rfl rfl rfl rfl rfl rfl rfl ⟨rfl, rfl, rfl, rfl, rfl⟩ rfl rfl rfl rfl rfl vecSparseDot_n1 Try.func5 vecSparseDot_facts vecSparseDot_n3 vecSparseDot_n4
    (fun os started H enc _ => vecSparseDot_lifted os started H enc)
#print axioms vecSparseDot_holds
end Go.Proofs.Ytdhkdnmefeeclaa
