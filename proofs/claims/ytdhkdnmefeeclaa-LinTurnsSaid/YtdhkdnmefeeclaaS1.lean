/- The law LinTurns: the walk. -/
import Derived.Test.YtdhkdnmefeeclaaM3
set_option linter.unusedSimpArgs false
set_option linter.unusedVariables false
set_option linter.unnecessarySimpa false
set_option linter.unusedSimpArgs false
set_option linter.unusedVariables false
set_option maxRecDepth 100000
set_option maxHeartbeats 4000000
namespace Go.Proofs.Ytdhkdnmefeeclaa
open Go Go.Am Go.Proofs Go.RowKit Go.Off

theorem cmp_self (q : Rat) : cmpQ q q = 0 := by
  unfold cmpQ
  rw [if_neg (by grind), if_neg (by grind)]

abbrev c13_k1 : CC := (.seq (.reg [⟨(some 105), none, (.mv (.tmp 11))⟩, ⟨(some 106), none, (.mv (.tmp 2))⟩, ⟨(some 107), none, (.callf (.func 41) [(.tmp 105), (.tmp 106)])⟩, ⟨(some 108), none, (.mv (.tmp 13))⟩, ⟨(some 109), none, (.mv (.tmp 1))⟩, ⟨(some 110), none, (.callf (.func 41) [(.tmp 108), (.tmp 109)])⟩, ⟨(some 111), none, (.callf (.func 46) [(.tmp 107), (.tmp 110)])⟩, ⟨(some 112), none, (.bin .eql (.tmp 111) (.const (.int .i64 (0))))⟩, ⟨(some 113), none, (.mv (.tmp 112))⟩, ⟨(some 114), (some (113, true)), (.callf (.func 55) [])⟩, ⟨(some 115), none, (.pick (.tmp 113) (.tmp 114) (.const (.bool false)))⟩, ⟨(some 6), none, (.mv (.tmp 115))⟩]) .ret)
abbrev c13_b1 : CC := (.seq (.reg [⟨(some 92), none, (.bin .lss (.tmp 91) (.tmp 90))⟩]) (.seq (.cond (.tmp 92) .skip (.exit 0)) (.seq (.block 1 (.seq (.reg [⟨(some 93), none, (.mv (.tmp 91))⟩, ⟨(some 16), none, (.mv (.tmp 93))⟩]) (.seq (.reg [⟨(some 94), none, (.mv (.tmp 15))⟩, ⟨(some 95), none, (.mv (.tmp 16))⟩, ⟨(some 96), none, (.iaddr 1 none (.tmp 94) (.tmp 95))⟩, ⟨(some 97), none, (.load 1 false (.tmp 96))⟩, ⟨(some 98), none, (.mv (.tmp 0))⟩, ⟨(some 99), none, (.mv (.tmp 16))⟩, ⟨(some 100), none, (.iaddr 1 none (.tmp 98) (.tmp 99))⟩, ⟨(some 101), none, (.load 1 false (.tmp 100))⟩, ⟨(some 102), none, (.callf (.func 51) [(.tmp 97), (.tmp 101)])⟩, ⟨(some 103), none, (.un .not (.tmp 102))⟩]) (.cond (.tmp 103) (.seq (.reg [⟨(some 6), none, (.mv (.const (.bool false)))⟩]) .ret) .skip)))) (.reg [⟨(some 104), none, (.bin .add (.tmp 91) (.const (.int .i64 (1))))⟩, ⟨(some 91), none, (.mv (.tmp 104))⟩]))))
abbrev c13 : CC := (.seq (.reg [⟨(some 6), none, (.mv (.const (.bool false)))⟩]) (.seq (.reg [⟨(some 18), none, (.mv (.tmp 0))⟩, ⟨(some 19), none, (.callf (.func 53) [(.tmp 18)])⟩, ⟨(some 17), none, (.mv (.tmp 19))⟩, ⟨(some 20), none, (.ext (.tmp 17) 0)⟩, ⟨(some 21), none, (.ext (.tmp 17) 1)⟩, ⟨(some 22), none, (.ext (.tmp 17) 2)⟩, ⟨(some 7), none, (.mv (.tmp 20))⟩, ⟨(some 8), none, (.mv (.tmp 21))⟩, ⟨(some 9), none, (.mv (.tmp 22))⟩]) (.seq (.seq (.reg [⟨(some 23), none, (.mv (.tmp 0))⟩, ⟨(some 24), none, (.callf (.func 54) [(.tmp 23)])⟩, ⟨(some 25), none, (.un .not (.tmp 24))⟩, ⟨(some 26), none, (.mv (.tmp 25))⟩, ⟨(some 27), (some (26, false)), (.mv (.tmp 9))⟩, ⟨(some 28), (some (26, false)), (.un .not (.tmp 27))⟩, ⟨(some 29), none, (.pick (.tmp 26) (.const (.bool true)) (.tmp 28))⟩, ⟨(some 30), none, (.mv (.tmp 29))⟩, ⟨(some 31), (some (30, false)), (.mv (.tmp 7))⟩, ⟨(some 32), (some (30, false)), (.bin .eql (.tmp 31) (.const (.int .i64 (0))))⟩, ⟨(some 33), none, (.pick (.tmp 30) (.const (.bool true)) (.tmp 32))⟩, ⟨(some 34), none, (.mv (.tmp 33))⟩, ⟨(some 35), (some (34, false)), (.mv (.tmp 8))⟩, ⟨(some 36), (some (34, false)), (.bin .eql (.tmp 35) (.const (.int .i64 (0))))⟩, ⟨(some 37), none, (.pick (.tmp 34) (.const (.bool true)) (.tmp 36))⟩, ⟨(some 38), none, (.mv (.tmp 37))⟩, ⟨(some 39), (some (38, false)), (.mv (.tmp 1))⟩, ⟨(some 40), (some (38, false)), (.callf (.func 26) [(.tmp 39)])⟩, ⟨(some 41), (some (38, false)), (.un .not (.tmp 40))⟩, ⟨(some 42), none, (.pick (.tmp 38) (.const (.bool true)) (.tmp 41))⟩, ⟨(some 43), none, (.mv (.tmp 42))⟩, ⟨(some 44), (some (43, false)), (.mv (.tmp 2))⟩, ⟨(some 45), (some (43, false)), (.callf (.func 26) [(.tmp 44)])⟩, ⟨(some 46), (some (43, false)), (.un .not (.tmp 45))⟩, ⟨(some 47), none, (.pick (.tmp 43) (.const (.bool true)) (.tmp 46))⟩, ⟨(some 48), none, (.mv (.tmp 47))⟩, ⟨(some 49), (some (48, false)), (.mv (.tmp 1))⟩, ⟨(some 50), (some (48, false)), (.len false (.tmp 49))⟩, ⟨(some 51), (some (48, false)), (.mv (.tmp 8))⟩, ⟨(some 52), (some (48, false)), (.bin .neq (.tmp 50) (.tmp 51))⟩, ⟨(some 53), none, (.pick (.tmp 48) (.const (.bool true)) (.tmp 52))⟩, ⟨(some 54), none, (.mv (.tmp 53))⟩, ⟨(some 55), (some (54, false)), (.mv (.tmp 2))⟩, ⟨(some 56), (some (54, false)), (.len false (.tmp 55))⟩, ⟨(some 57), (some (54, false)), (.mv (.tmp 7))⟩, ⟨(some 58), (some (54, false)), (.bin .neq (.tmp 56) (.tmp 57))⟩, ⟨(some 59), none, (.pick (.tmp 54) (.const (.bool true)) (.tmp 58))⟩]) (.cond (.tmp 59) (.seq (.reg [⟨(some 60), none, (.callf (.func 55) [])⟩, ⟨(some 6), none, (.mv (.tmp 60))⟩]) .ret) .skip)) (.seq (.reg [⟨(some 61), none, (.mv (.tmp 0))⟩, ⟨(some 62), none, (.callf (.func 60) [(.tmp 61)])⟩, ⟨(some 10), none, (.mv (.tmp 62))⟩]) (.seq (.reg [⟨(some 64), none, (.mv (.tmp 0))⟩, ⟨(some 65), none, (.mv (.tmp 1))⟩, ⟨(some 66), none, (.callf (.func 64) [(.tmp 64), (.tmp 65)])⟩, ⟨(some 63), none, (.mv (.tmp 66))⟩, ⟨(some 67), none, (.ext (.tmp 63) 0)⟩, ⟨(some 68), none, (.ext (.tmp 63) 1)⟩, ⟨(some 11), none, (.mv (.tmp 67))⟩, ⟨(some 12), none, (.mv (.tmp 68))⟩]) (.seq (.reg [⟨(some 70), none, (.mv (.tmp 10))⟩, ⟨(some 71), none, (.mv (.tmp 2))⟩, ⟨(some 72), none, (.callf (.func 64) [(.tmp 70), (.tmp 71)])⟩, ⟨(some 69), none, (.mv (.tmp 72))⟩, ⟨(some 73), none, (.ext (.tmp 69) 0)⟩, ⟨(some 74), none, (.ext (.tmp 69) 1)⟩, ⟨(some 13), none, (.mv (.tmp 73))⟩, ⟨(some 14), none, (.mv (.tmp 74))⟩]) (.seq (.reg [⟨(some 75), none, (.mv (.tmp 10))⟩, ⟨(some 76), none, (.callf (.func 60) [(.tmp 75)])⟩, ⟨(some 15), none, (.mv (.tmp 76))⟩]) (.seq (.seq (.reg [⟨(some 77), none, (.mv (.tmp 12))⟩, ⟨(some 78), none, (.bin .neq (.tmp 77) (.const (.int .i64 (0))))⟩, ⟨(some 79), none, (.mv (.tmp 78))⟩, ⟨(some 80), (some (79, false)), (.mv (.tmp 14))⟩, ⟨(some 81), (some (79, false)), (.bin .neq (.tmp 80) (.const (.int .i64 (0))))⟩, ⟨(some 82), none, (.pick (.tmp 79) (.const (.bool true)) (.tmp 81))⟩, ⟨(some 83), none, (.mv (.tmp 82))⟩, ⟨(some 84), (some (83, false)), (.mv (.tmp 15))⟩, ⟨(some 85), (some (83, false)), (.len false (.tmp 84))⟩, ⟨(some 86), (some (83, false)), (.mv (.tmp 7))⟩, ⟨(some 87), (some (83, false)), (.bin .neq (.tmp 85) (.tmp 86))⟩, ⟨(some 88), none, (.pick (.tmp 83) (.const (.bool true)) (.tmp 87))⟩]) (.cond (.tmp 88) (.seq (.reg [⟨(some 6), none, (.mv (.const (.bool false)))⟩]) .ret) .skip)) (.seq (.seq (.reg [⟨(some 89), none, (.mv (.tmp 15))⟩, ⟨(some 90), none, (.len false (.tmp 89))⟩, ⟨(some 91), none, (.mv (.const (.int .i64 (0))))⟩]) (.block 0 (.loop c13_b1))) c13_k1)))))))))
theorem cc13 : ccode Try.prog [] (Try.f13.body.getD .skip) = some c13 := by kernel_rfl
theorem body13 : Try.f13.body = some (Try.f13.body.getD .skip) := rfl

theorem linTurns_C (m : MM) (x y : VV) (hl : (osl m).length ≤ 9223372036854775807) : PureC Try.prog 13 [aM m, aV x, aV y] (.ret (aB true)) := by
  have hs := lsides_C m hl
  have hf := lfew_C m
  have hfx := few_C x
  have hfy := few_C y
  have haw := awake6_C
  unfold lsidesV at hs
  by_cases c1 : fewM m = true
  case neg =>
    rw [show fewM m = false by simpa using c1] at hf
    by_cases c2 : rectTo m (osl m).length = true
    · rw [if_pos c2] at hs
      generalize cols m = W at *
      refine pureC_of (rs := [(RV.tmp 6)]) Try.func13 (fun a w => Try.call13 a w) body13 cc13 (by kernel_rfl) ?_
      rw [Try.ntmps13]
      simp only [frs, Nat.reduceAdd, Nat.reduceSub]
      repeat (first | (with_reducible first | refine Way.imp ?_ | refine blk_o rfl ?_) | ((with_reducible refine WayR.imp (fun K hK => ?_)); simp (disch := first | omega | (simp only [dls]; omega)) only [std, reduceIte, reduceCtorEq, Int.reduceToNat, Nat.reduceAdd, Nat.reduceSub, Nat.reduceMul, Int.reduceAdd, Int.reduceSub, Int.reduceMul, Int.reduceNeg, fU]; subst hK) | refine zcA (hs) rfl rfl rfl ?_ | refine zcA (hf) rfl rfl rfl ?_ | refine zcA (haw) rfl rfl rfl ?_)
      exact ⟨_, rfl, rfl⟩
    · rw [if_neg c2] at hs
      refine pureC_of (rs := [(RV.tmp 6)]) Try.func13 (fun a w => Try.call13 a w) body13 cc13 (by kernel_rfl) ?_
      rw [Try.ntmps13]
      simp only [frs, Nat.reduceAdd, Nat.reduceSub]
      repeat (first | (with_reducible first | refine Way.imp ?_ | refine blk_o rfl ?_) | ((with_reducible refine WayR.imp (fun K hK => ?_)); simp (disch := first | omega | (simp only [dls]; omega)) only [std, reduceIte, reduceCtorEq, Int.reduceToNat, Nat.reduceAdd, Nat.reduceSub, Nat.reduceMul, Int.reduceAdd, Int.reduceSub, Int.reduceMul, Int.reduceNeg, fU]; subst hK) | refine zcA (hs) rfl rfl rfl ?_ | refine zcA (hf) rfl rfl rfl ?_ | refine zcA (haw) rfl rfl rfl ?_)
      exact ⟨_, rfl, rfl⟩
  rw [c1] at hf
  by_cases c2 : rectTo m (osl m).length = true
  case neg =>
    rw [if_neg c2] at hs
    refine pureC_of (rs := [(RV.tmp 6)]) Try.func13 (fun a w => Try.call13 a w) body13 cc13 (by kernel_rfl) ?_
    rw [Try.ntmps13]
    simp only [frs, Nat.reduceAdd, Nat.reduceSub]
    repeat (first | (with_reducible first | refine Way.imp ?_ | refine blk_o rfl ?_) | ((with_reducible refine WayR.imp (fun K hK => ?_)); simp (disch := first | omega | (simp only [dls]; omega)) only [std, reduceIte, reduceCtorEq, Int.reduceToNat, Nat.reduceAdd, Nat.reduceSub, Nat.reduceMul, Int.reduceAdd, Int.reduceSub, Int.reduceMul, Int.reduceNeg, fU]; subst hK) | refine zcA (hs) rfl rfl rfl ?_ | refine zcA (hf) rfl rfl rfl ?_ | refine zcA (haw) rfl rfl rfl ?_)
    exact ⟨_, rfl, rfl⟩
  rw [if_pos c2] at hs
  have hmf := fewM_fits c1
  have hm1 := fewM_len c1
  have hok := ok_of hmf (by decide) c2
  have hW8 := cols_le hmf
  by_cases c3 : (osl m).length = 0
  case pos =>
    generalize cols m = W at *
    refine pureC_of (rs := [(RV.tmp 6)]) Try.func13 (fun a w => Try.call13 a w) body13 cc13 (by kernel_rfl) ?_
    rw [Try.ntmps13]
    simp only [frs, Nat.reduceAdd, Nat.reduceSub]
    repeat (first | (with_reducible first | refine Way.imp ?_ | refine blk_o rfl ?_) | ((with_reducible refine WayR.imp (fun K hK => ?_)); simp (disch := first | omega | (simp only [dls]; omega)) only [std, reduceIte, reduceCtorEq, Int.reduceToNat, Nat.reduceAdd, Nat.reduceSub, Nat.reduceMul, Int.reduceAdd, Int.reduceSub, Int.reduceMul, Int.reduceNeg, fU, c3]; subst hK) | refine zcA (hs) rfl rfl rfl ?_ | refine zcA (hf) rfl rfl rfl ?_ | refine zcA (haw) rfl rfl rfl ?_)
    exact ⟨_, rfl, rfl⟩
  by_cases c4 : cols m = 0
  case pos =>
    rw [c4] at hs
    refine pureC_of (rs := [(RV.tmp 6)]) Try.func13 (fun a w => Try.call13 a w) body13 cc13 (by kernel_rfl) ?_
    rw [Try.ntmps13]
    simp only [frs, Nat.reduceAdd, Nat.reduceSub]
    repeat (first | (with_reducible first | refine Way.imp ?_ | refine blk_o rfl ?_) | ((with_reducible refine WayR.imp (fun K hK => ?_)); simp (disch := first | omega | (simp only [dls]; omega)) only [std, reduceIte, reduceCtorEq, Int.reduceToNat, Nat.reduceAdd, Nat.reduceSub, Nat.reduceMul, Int.reduceAdd, Int.reduceSub, Int.reduceMul, Int.reduceNeg, fU]; subst hK) | refine zcA (hs) rfl rfl rfl ?_ | refine zcA (hf) rfl rfl rfl ?_ | refine zcA (haw) rfl rfl rfl ?_)
    exact ⟨_, rfl, rfl⟩
  by_cases c5 : fewB x = true
  case neg =>
    rw [show fewB x = false by simpa using c5] at hfx
    generalize cols m = W at *
    refine pureC_of (rs := [(RV.tmp 6)]) Try.func13 (fun a w => Try.call13 a w) body13 cc13 (by kernel_rfl) ?_
    rw [Try.ntmps13]
    simp only [frs, Nat.reduceAdd, Nat.reduceSub]
    repeat (first | (with_reducible first | refine Way.imp ?_ | refine blk_o rfl ?_) | ((with_reducible refine WayR.imp (fun K hK => ?_)); simp (disch := first | omega | (simp only [dls]; omega)) only [std, reduceIte, reduceCtorEq, Int.reduceToNat, Nat.reduceAdd, Nat.reduceSub, Nat.reduceMul, Int.reduceAdd, Int.reduceSub, Int.reduceMul, Int.reduceNeg, fU]; subst hK) | refine zcA (hs) rfl rfl rfl ?_ | refine zcA (hf) rfl rfl rfl ?_ | (apply call_any_g (hfx) rfl; (case hg => simp (disch := first | omega | (simp only [dls]; omega)) only [std, reduceIte, reduceCtorEq, Int.reduceToNat, Nat.reduceAdd, Nat.reduceSub, Nat.reduceMul, Int.reduceAdd, Int.reduceSub, Int.reduceMul, Int.reduceNeg, fU]); (case hcl => (simp only [evs, St.ev, constAV, evl]; (repeat (first | exact closeAVs_nil | (apply closeAVs_cons; (first | (refine close_own3 rfl (by decide)) | (refine close_ownO rfl (by decide) ?_; assumption) | rfl)))); done)); (case hu => rfl)) | refine zcA (haw) rfl rfl rfl ?_)
    exact ⟨_, rfl, rfl⟩
  rw [c5] at hfx
  by_cases c6 : fewB y = true
  case neg =>
    rw [show fewB y = false by simpa using c6] at hfy
    generalize cols m = W at *
    refine pureC_of (rs := [(RV.tmp 6)]) Try.func13 (fun a w => Try.call13 a w) body13 cc13 (by kernel_rfl) ?_
    rw [Try.ntmps13]
    simp only [frs, Nat.reduceAdd, Nat.reduceSub]
    repeat (first | (with_reducible first | refine Way.imp ?_ | refine blk_o rfl ?_) | ((with_reducible refine WayR.imp (fun K hK => ?_)); simp (disch := first | omega | (simp only [dls]; omega)) only [std, reduceIte, reduceCtorEq, Int.reduceToNat, Nat.reduceAdd, Nat.reduceSub, Nat.reduceMul, Int.reduceAdd, Int.reduceSub, Int.reduceMul, Int.reduceNeg, fU]; subst hK) | refine zcA (hs) rfl rfl rfl ?_ | refine zcA (hf) rfl rfl rfl ?_ | (apply call_any_g (hfx) rfl; (case hg => simp (disch := first | omega | (simp only [dls]; omega)) only [std, reduceIte, reduceCtorEq, Int.reduceToNat, Nat.reduceAdd, Nat.reduceSub, Nat.reduceMul, Int.reduceAdd, Int.reduceSub, Int.reduceMul, Int.reduceNeg, fU]); (case hcl => (simp only [evs, St.ev, constAV, evl]; (repeat (first | exact closeAVs_nil | (apply closeAVs_cons; (first | (refine close_own3 rfl (by decide)) | (refine close_ownO rfl (by decide) ?_; assumption) | rfl)))); done)); (case hu => rfl)) | (apply call_any_g (hfy) rfl; (case hg => simp (disch := first | omega | (simp only [dls]; omega)) only [std, reduceIte, reduceCtorEq, Int.reduceToNat, Nat.reduceAdd, Nat.reduceSub, Nat.reduceMul, Int.reduceAdd, Int.reduceSub, Int.reduceMul, Int.reduceNeg, fU]); (case hcl => (simp only [evs, St.ev, constAV, evl]; (repeat (first | exact closeAVs_nil | (apply closeAVs_cons; (first | (refine close_own3 rfl (by decide)) | (refine close_ownO rfl (by decide) ?_; assumption) | rfl)))); done)); (case hu => rfl)) | refine zcA (haw) rfl rfl rfl ?_)
    exact ⟨_, rfl, rfl⟩
  rw [c6] at hfy
  have fx := fewB_fits c5
  have fy := fewB_fits c6
  have hx8 := fx.1
  have hy8 := fy.1
  by_cases c7 : (osl x).length = cols m
  case neg =>
    generalize cols m = W at *
    refine pureC_of (rs := [(RV.tmp 6)]) Try.func13 (fun a w => Try.call13 a w) body13 cc13 (by kernel_rfl) ?_
    rw [Try.ntmps13]
    simp only [frs, Nat.reduceAdd, Nat.reduceSub]
    repeat (first | (with_reducible first | refine Way.imp ?_ | refine blk_o rfl ?_) | ((with_reducible refine WayR.imp (fun K hK => ?_)); simp (disch := first | omega | (simp only [dls]; omega)) only [std, reduceIte, reduceCtorEq, Int.reduceToNat, Nat.reduceAdd, Nat.reduceSub, Nat.reduceMul, Int.reduceAdd, Int.reduceSub, Int.reduceMul, Int.reduceNeg, fU]; subst hK) | refine zcA (hs) rfl rfl rfl ?_ | refine zcA (hf) rfl rfl rfl ?_ | (apply call_any_g (hfx) rfl; (case hg => simp (disch := first | omega | (simp only [dls]; omega)) only [std, reduceIte, reduceCtorEq, Int.reduceToNat, Nat.reduceAdd, Nat.reduceSub, Nat.reduceMul, Int.reduceAdd, Int.reduceSub, Int.reduceMul, Int.reduceNeg, fU]); (case hcl => (simp only [evs, St.ev, constAV, evl]; (repeat (first | exact closeAVs_nil | (apply closeAVs_cons; (first | (refine close_own3 rfl (by decide)) | (refine close_ownO rfl (by decide) ?_; assumption) | rfl)))); done)); (case hu => rfl)) | (apply call_any_g (hfy) rfl; (case hg => simp (disch := first | omega | (simp only [dls]; omega)) only [std, reduceIte, reduceCtorEq, Int.reduceToNat, Nat.reduceAdd, Nat.reduceSub, Nat.reduceMul, Int.reduceAdd, Int.reduceSub, Int.reduceMul, Int.reduceNeg, fU]); (case hcl => (simp only [evs, St.ev, constAV, evl]; (repeat (first | exact closeAVs_nil | (apply closeAVs_cons; (first | (refine close_own3 rfl (by decide)) | (refine close_ownO rfl (by decide) ?_; assumption) | rfl)))); done)); (case hu => rfl)) | refine zcA (haw) rfl rfl rfl ?_)
    exact ⟨_, rfl, rfl⟩
  by_cases c8 : (osl y).length = (osl m).length
  case neg =>
    generalize cols m = W at *
    refine pureC_of (rs := [(RV.tmp 6)]) Try.func13 (fun a w => Try.call13 a w) body13 cc13 (by kernel_rfl) ?_
    rw [Try.ntmps13]
    simp only [frs, Nat.reduceAdd, Nat.reduceSub]
    repeat (first | (with_reducible first | refine Way.imp ?_ | refine blk_o rfl ?_) | ((with_reducible refine WayR.imp (fun K hK => ?_)); simp (disch := first | omega | (simp only [dls]; omega)) only [std, reduceIte, reduceCtorEq, Int.reduceToNat, Nat.reduceAdd, Nat.reduceSub, Nat.reduceMul, Int.reduceAdd, Int.reduceSub, Int.reduceMul, Int.reduceNeg, fU, c7]; subst hK) | refine zcA (hs) rfl rfl rfl ?_ | refine zcA (hf) rfl rfl rfl ?_ | (apply call_any_g (hfx) rfl; (case hg => simp (disch := first | omega | (simp only [dls]; omega)) only [std, reduceIte, reduceCtorEq, Int.reduceToNat, Nat.reduceAdd, Nat.reduceSub, Nat.reduceMul, Int.reduceAdd, Int.reduceSub, Int.reduceMul, Int.reduceNeg, fU, c7]); (case hcl => (simp only [evs, St.ev, constAV, evl]; (repeat (first | exact closeAVs_nil | (apply closeAVs_cons; (first | (refine close_own3 rfl (by decide)) | (refine close_ownO rfl (by decide) ?_; assumption) | rfl)))); done)); (case hu => rfl)) | (apply call_any_g (hfy) rfl; (case hg => simp (disch := first | omega | (simp only [dls]; omega)) only [std, reduceIte, reduceCtorEq, Int.reduceToNat, Nat.reduceAdd, Nat.reduceSub, Nat.reduceMul, Int.reduceAdd, Int.reduceSub, Int.reduceMul, Int.reduceNeg, fU, c7]); (case hcl => (simp only [evs, St.ev, constAV, evl]; (repeat (first | exact closeAVs_nil | (apply closeAVs_cons; (first | (refine close_own3 rfl (by decide)) | (refine close_ownO rfl (by decide) ?_; assumption) | rfl)))); done)); (case hu => rfl)) | refine zcA (haw) rfl rfl rfl ?_)
    exact ⟨_, rfl, rfl⟩
  have hst := shp_turn m
  have hwt := wf_turn hmf (by decide)
  have hr := rect_rawM hst
  have fT := fits_rawM (k := 8) hwt hW8 (by omega : (osl m).length ≤ 8)
  have okT := ok_of fT (by decide) hr.1
  have cT := hr.2 c4
  have lT : (osl (rawM (turnQ m))).length = cols m := by rw [len_rawM, hst.1]
  have hst2 := shp_turn (rawM (turnQ m))
  rw [cT, lT] at hst2
  have lU : (osl (rawM (turnQ (rawM (turnQ m))))).length = (osl m).length := by rw [len_rawM, hst2.1]
  have fU' := fits_rawM (k := 8) (wf_turn fT (by decide)) (by rw [cT]; omega) (by rw [lT]; exact hW8)
  have t1 := (turn_yes m 8 3 hmf (by decide) (by decide) hok).fresh_rowO
  rw [rowO_rawM _ (by rw [hst.1]; exact c4)] at t1
  have t2 := (turn_yes (rawM (turnQ m)) 8 3 fT (by decide) (by decide) okT).fresh_rowO
  rw [rowO_rawM _ (by rw [hst2.1]; exact c3)] at t2
  have a1 := apply_yes m x 8 3 hmf fx (by decide) (by decide) (by decide) hok (.inr c7.symm)
  have a2 := apply_yes (rawM (turnQ m)) y 8 3 fT fy (by decide) (by decide) (by decide) okT (.inr (by rw [cT]; exact c8.symm))
  have fA := fits_apply hmf fx (by decide)
  have fB := fits_apply fT fy (by decide)
  have d1 := dot_C _ y 8 57 fA ⟨fy.1, fun r hr => (fy.2 r hr).mono (by decide)⟩ (by decide) (by decide) (by decide)
  have d2 := dot_C _ x 8 57 fB ⟨fx.1, fun r hr => (fx.2 r hr).mono (by decide)⟩ (by decide) (by decide) (by decide)
  have fd := fits_dot fA (b := y) ⟨fy.1, fun r hr => (fy.2 r hr).mono (by decide)⟩ (by decide)
  have hcmp := rcompare_C (rawQ (dotV (rowO ((applyQ m x).map rawQ)) y)) (rawQ (dotV (rowO ((applyQ m x).map rawQ)) y)) ((fits_rawQ fd).mono (by decide)) ((fits_rawQ fd).mono (by decide))
  rw [cmp_self] at hcmp
  rw [← turn_dot c2 c7 c8] at d2
  have hsame : ∀ (i : Nat) (h1 : i < (osl (rawM (turnQ (rawM (turnQ m))))).length) (h2 : i < (osl m).length), sameQ (osl (rawM (turnQ (rawM (turnQ m)))))[i] (osl m)[i] = true := fun i h1 h2 => by
    rw [← mAt_in h1, ← mAt_in h2]
    have e1 : (osl (mAt (rawM (turnQ (rawM (turnQ m)))) i)).length = cols m := by
      rw [mAt_rawM (by rw [hst2.1]; exact h2), osl_rawV, List.length_map, hst2.2 i h2]
    have e2 := row_len c2 h2
    refine same_of (by rw [e1, e2]) (fun k hk => ?_)
    rw [e1] at hk
    rw [qAt_rawM (by rw [hst2.1]; exact h2), eQ_turn _ (by rw [cT]; exact h2) (by rw [lT]; exact hk), qAt_rawM (by rw [hst.1]; exact hk), eQ_turn m hk h2]
  clear hst hwt hr okT hst2
  generalize hA : rowO ((applyQ m x).map rawQ) = A at *
  generalize hB : rowO ((applyQ (rawM (turnQ m)) y).map rawQ) = B at *
  generalize rawM (turnQ (rawM (turnQ m))) = U at *
  generalize rawM (turnQ m) = T at *
  generalize dotV A y = dd at *
  generalize cols m = W at *
  refine pureC_of (rs := [(RV.tmp 6)]) Try.func13 (fun a w => Try.call13 a w) body13 cc13 (by kernel_rfl) ?_
  rw [Try.ntmps13]
  simp only [frs, Nat.reduceAdd, Nat.reduceSub]
  repeat (first | (with_reducible first | refine Way.imp ?_ | refine blk_o rfl ?_) | ((with_reducible refine WayR.imp (fun K hK => ?_)); simp (disch := first | omega | (simp only [dls]; omega)) only [std, reduceIte, reduceCtorEq, Int.reduceToNat, Nat.reduceAdd, Nat.reduceSub, Nat.reduceMul, Int.reduceAdd, Int.reduceSub, Int.reduceMul, Int.reduceNeg, fU, c7, c8, lU]; subst hK) | refine zcA (hs) rfl rfl rfl ?_ | refine zcA (hf) rfl rfl rfl ?_ | (apply call_any_g (hfx) rfl; (case hg => simp (disch := first | omega | (simp only [dls]; omega)) only [std, reduceIte, reduceCtorEq, Int.reduceToNat, Nat.reduceAdd, Nat.reduceSub, Nat.reduceMul, Int.reduceAdd, Int.reduceSub, Int.reduceMul, Int.reduceNeg, fU, c7, c8, lU]); (case hcl => (simp only [evs, St.ev, constAV, evl]; (repeat (first | exact closeAVs_nil | (apply closeAVs_cons; (first | (refine close_own3 rfl (by decide)) | (refine close_ownO rfl (by decide) ?_; assumption) | rfl)))); done)); (case hu => rfl)) | (apply call_any_g (hfy) rfl; (case hg => simp (disch := first | omega | (simp only [dls]; omega)) only [std, reduceIte, reduceCtorEq, Int.reduceToNat, Nat.reduceAdd, Nat.reduceSub, Nat.reduceMul, Int.reduceAdd, Int.reduceSub, Int.reduceMul, Int.reduceNeg, fU, c7, c8, lU]); (case hcl => (simp only [evs, St.ev, constAV, evl]; (repeat (first | exact closeAVs_nil | (apply closeAVs_cons; (first | (refine close_own3 rfl (by decide)) | (refine close_ownO rfl (by decide) ?_; assumption) | rfl)))); done)); (case hu => rfl)) | refine zcA (t1) rfl rfl rfl ?_ | refine zcA (a1) rfl rfl rfl ?_ | refine zcA (a2) rfl rfl rfl ?_ | refine zcA (t2) rfl rfl rfl ?_)
  refine awp_loop (fun (zz : Nat) => ⟨(aM m :: aV x :: aV y :: .junk :: .junk :: .junk :: .junk :: .junk :: .junk :: .junk :: .junk :: aV A :: .junk :: aV B :: .junk :: aM U :: .junk :: .junk :: .junk :: .junk :: .junk :: .junk :: .junk :: .junk :: .junk :: .junk :: .junk :: .junk :: .junk :: .junk :: .junk :: .junk :: .junk :: .junk :: .junk :: .junk :: .junk :: .junk :: .junk :: .junk :: .junk :: .junk :: .junk :: .junk :: .junk :: .junk :: .junk :: .junk :: .junk :: .junk :: .junk :: .junk :: .junk :: .junk :: .junk :: .junk :: .junk :: .junk :: .junk :: .junk :: .junk :: .junk :: .junk :: .junk :: .junk :: .junk :: .junk :: .junk :: .junk :: .junk :: .junk :: .junk :: .junk :: .junk :: .junk :: .junk :: .junk :: .junk :: .junk :: .junk :: .junk :: .junk :: .junk :: .junk :: .junk :: .junk :: .junk :: .junk :: .junk :: .junk :: aI (osl m).length :: aI zz :: .junk :: .junk :: .junk :: .junk :: .junk :: .junk :: .junk :: .junk :: .junk :: .junk :: .junk :: .junk :: .junk :: .junk :: .junk :: .junk :: .junk :: .junk :: .junk :: .junk :: .junk :: .junk :: .junk :: .junk :: []), []⟩) (fun (zz : Nat) => zz ≤ (osl m).length) (fun (zz : Nat) => (osl m).length - zz) (0) ?hI1 (Fgt.head (Nat.le_refl _) (true :: true :: true :: false :: false :: false :: false :: false :: false :: false :: false :: true :: false :: true :: false :: true :: false :: false :: false :: false :: false :: false :: false :: false :: false :: false :: false :: false :: false :: false :: false :: false :: false :: false :: false :: false :: false :: false :: false :: false :: false :: false :: false :: false :: false :: false :: false :: false :: false :: false :: false :: false :: false :: false :: false :: false :: false :: false :: false :: false :: false :: false :: false :: false :: false :: false :: false :: false :: false :: false :: false :: false :: false :: false :: false :: false :: false :: false :: false :: false :: false :: false :: false :: false :: false :: false :: false :: false :: false :: false :: true :: true :: []) ?hT1 ?hH1) ?hB1
  case hT1 => first | (simp (disch := omega) only [hds, liveT, cleanAV, cleanCell, clean1, cleanBlk, reduceIte, Int.reduceSub, Int.reduceAdd, Int.reduceNeg]; done) | rfl
  case hH1 => first | (simp (disch := omega) only [hds, liveT, cleanAV, cleanCell, clean1, cleanBlk, reduceIte, Int.reduceSub, Int.reduceAdd, Int.reduceNeg]; done) | rfl
  · exact Nat.zero_le _
  rintro i hi
  by_cases him : i = (osl m).length
  · repeat (first | (with_reducible first | refine Way.imp ?_ | refine blk_o rfl ?_) | ((with_reducible refine WayR.imp (fun K hK => ?_)); simp (disch := first | omega | (simp only [dls]; omega)) only [std, reduceIte, reduceCtorEq, Int.reduceToNat, Nat.reduceAdd, Nat.reduceSub, Nat.reduceMul, Int.reduceAdd, Int.reduceSub, Int.reduceMul, Int.reduceNeg, fU]; subst hK) | refine zcA (d1) rfl rfl rfl ?_ | refine zcA (d2) rfl rfl rfl ?_ | refine zcA (hcmp) rfl rfl rfl ?_ | (apply call_any_g (haw) rfl; (case hg => simp (disch := first | omega | (simp only [dls]; omega)) only [std, reduceIte, reduceCtorEq, Int.reduceToNat, Nat.reduceAdd, Nat.reduceSub, Nat.reduceMul, Int.reduceAdd, Int.reduceSub, Int.reduceMul, Int.reduceNeg, fU]); (case hcl => (simp only [evs, St.ev, constAV, evl]; (repeat (first | exact closeAVs_nil | (apply closeAVs_cons; (first | (refine close_own3 rfl (by decide)) | (refine close_ownO rfl (by decide) ?_; assumption) | rfl)))); done)); (case hu => rfl)))
    exact ⟨_, rfl, rfl⟩
  · have hlt : i < (osl m).length := by omega
    have hltU : i < (osl U).length := by omega
    have hsm := vsame_C (osl U)[i] (osl m)[i] 8 3 (fU'.2 _ (List.getElem_mem hltU)) (hmf.2 _ (List.getElem_mem hlt)) (by decide) (by decide)
    rw [hsame i hltU hlt] at hsm
    repeat (first | (with_reducible first | refine Way.imp ?_ | refine blk_o rfl ?_) | ((with_reducible refine WayR.imp (fun K hK => ?_)); simp (disch := first | omega | (simp only [dls]; omega)) only [std, reduceIte, reduceCtorEq, Int.reduceToNat, Nat.reduceAdd, Nat.reduceSub, Nat.reduceMul, Int.reduceAdd, Int.reduceSub, Int.reduceMul, Int.reduceNeg, fU, fM]; subst hK) | refine zcA (hsm) rfl rfl rfl ?_)
    refine ⟨(i + 1), ?hI2, ?hM2, Fgt.head (Nat.le_refl _) (true :: true :: true :: false :: false :: false :: false :: false :: false :: false :: false :: true :: false :: true :: false :: true :: false :: false :: false :: false :: false :: false :: false :: false :: false :: false :: false :: false :: false :: false :: false :: false :: false :: false :: false :: false :: false :: false :: false :: false :: false :: false :: false :: false :: false :: false :: false :: false :: false :: false :: false :: false :: false :: false :: false :: false :: false :: false :: false :: false :: false :: false :: false :: false :: false :: false :: false :: false :: false :: false :: false :: false :: false :: false :: false :: false :: false :: false :: false :: false :: false :: false :: false :: false :: false :: false :: false :: false :: false :: false :: true :: true :: []) ?hT2 ?hH2⟩
    case hT2 => first | (simp (disch := omega) only [hds, liveT, cleanAV, cleanCell, clean1, cleanBlk, reduceIte, Int.reduceSub, Int.reduceAdd, Int.reduceNeg]; done) | rfl
    case hH2 => first | (simp (disch := omega) only [hds, liveT, cleanAV, cleanCell, clean1, cleanBlk, reduceIte, Int.reduceSub, Int.reduceAdd, Int.reduceNeg]; done) | rfl
    · omega
    · omega

end Go.Proofs.Ytdhkdnmefeeclaa
