/- The law ShapeOf: the walk. -/
import Derived.Test.YtdhkdnmefeeclaaX6
import Derived.Test.YtdhkdnmefeeclaaY2
set_option linter.unusedSimpArgs false
set_option linter.unusedVariables false
set_option linter.unnecessarySimpa false
set_option linter.unusedSimpArgs false
set_option linter.unusedVariables false
set_option maxRecDepth 100000
set_option maxHeartbeats 4000000
namespace Go.Proofs.Ytdhkdnmefeeclaa
open Go Go.Am Go.Proofs Go.RowKit Go.Off

abbrev loV (n : Nat) (v : VV) : VV := Option.map (fun x => List.drop n x) v
theorem osl_lo (n : Nat) (v : VV) : osl (loV n v) = (osl v).drop n := by cases v <;> simp [osl]
theorem zero_lo {n : Nat} {v : VV} (h : ∀ k, n ≤ k → k < (osl v).length → qAt v k = 0) : zeroQ (loV n v) = true := by
  unfold zeroQ zeroTo
  rw [List.all_eq_true]
  intro k hk
  rw [List.mem_range, osl_lo, List.length_drop] at hk
  have e : qAt (loV n v) k = qAt v (n + k) := by
    unfold qAt rAt
    rw [osl_lo, List.getD_eq_getElem?_getD, List.getD_eq_getElem?_getD, List.getElem?_drop]
  rw [e, h (n + k) (by omega) (by omega)]
  simp
theorem fits_lo {n m L : Nat} {v : VV} (h : FitsV v m L) : FitsV (loV n v) m L := by
  refine ⟨by rw [osl_lo, List.length_drop]; have := h.1; omega, fun r hr => ?_⟩
  rw [osl_lo] at hr
  exact h.2 r (List.mem_of_mem_drop hr)
/-- What the i-th row of a model's problem is. -/
structure RowIs (m : MD) (i : Nat) (R : VV) : Prop where
  len : (osl R).length = ofN m
  low : sameQ (cutV (osl m.vars).length R) (rwAt m i).coef = true
  at' : ∀ k, (osl m.vars).length ≤ k → k < ofN m → rAt R k = rawQ (if (osl m.vars).length + slackN m i = k then (if (rwAt m i).rel = 0 then 0 else ((0 - (rwAt m i).rel : Int) : Rat)) else 0)
  fit : FitsV R 14 3
theorem row_is {m : MD} (h : RtMd m) (hf : FewMd m) {i : Nat} (hi : i < (osl m.rows).length) : RowIs m i (mAt (ofP m).A i) := by
  have hv : (osl m.vars).length ≤ ofN m := by unfold ofN; omega
  have hcl := (h.row i hi).1
  have hl : (osl (mAt (ofP m).A i)).length = ofN m := by rw [ofP_row m hi, rowV_len, ofRow_len h hi]
  refine ⟨hl, ?_, fun k h1 h2 => ?_, (fits_ofP h hf).1.at i⟩
  · refine same_of (by rw [osl_cut, List.length_take, hl, hcl]; omega) (fun k hk => ?_)
    rw [osl_cut, List.length_take, hl] at hk
    rw [qAt_cut _ (by omega), ofP_row m hi, rowV_get, ofRow_get h hi, if_neg (by omega), Rat.add_zero]
  · rw [ofP_row m hi, rAt_rowV _ (by rw [ofRow_len h hi]; exact h2), ofRow_get h hi, qAt_past (by omega), Rat.zero_add]

abbrev c15_k1 : CC := (.seq (.reg [⟨(some 171), none, (.callf (.func 67) [])⟩, ⟨(some 2), none, (.mv (.tmp 171))⟩]) .ret)
abbrev c15_k2 : CC := (.reg [⟨(some 170), none, (.bin .add (.tmp 110) (.const (.int .i64 (1))))⟩, ⟨(some 110), none, (.mv (.tmp 170))⟩])
abbrev c15_k3 : CC := (.reg [⟨(some 163), none, (.mv (.tmp 9))⟩, ⟨(some 164), none, (.faddr 2 (.tmp 11))⟩, ⟨(some 165), none, (.load 1 false (.tmp 164))⟩, ⟨(some 166), none, (.faddr 2 (.tmp 11))⟩, ⟨(some 167), none, (.load 1 false (.tmp 166))⟩, ⟨(some 168), none, (.bin .mul (.tmp 165) (.tmp 167))⟩, ⟨(some 169), none, (.bin .add (.tmp 163) (.tmp 168))⟩, ⟨(some 9), none, (.mv (.tmp 169))⟩])
abbrev c15_b1 : CC := (.seq (.seq (.reg [⟨(some 139), none, (.mv (.tmp 13))⟩, ⟨(some 140), none, (.mv (.tmp 6))⟩, ⟨(some 141), none, (.bin .lss (.tmp 139) (.tmp 140))⟩]) (.cond (.tmp 141) .skip (.exit 4))) (.seq (.block 5 (.seq (.reg [⟨(some 14), none, (.mv (.const (.int .i64 (0))))⟩]) (.seq (.seq (.reg [⟨(some 144), none, (.faddr 2 (.tmp 11))⟩, ⟨(some 145), none, (.load 1 false (.tmp 144))⟩, ⟨(some 146), none, (.bin .neq (.tmp 145) (.const (.int .i64 (0))))⟩, ⟨(some 147), none, (.mv (.tmp 146))⟩, ⟨(some 148), (some (147, true)), (.mv (.tmp 13))⟩, ⟨(some 149), (some (147, true)), (.mv (.tmp 9))⟩, ⟨(some 150), (some (147, true)), (.bin .eql (.tmp 148) (.tmp 149))⟩, ⟨(some 151), none, (.pick (.tmp 147) (.tmp 150) (.const (.bool false)))⟩]) (.cond (.tmp 151) (.reg [⟨(some 152), none, (.faddr 2 (.tmp 11))⟩, ⟨(some 153), none, (.load 1 false (.tmp 152))⟩, ⟨(some 154), none, (.un .neg (.tmp 153))⟩, ⟨(some 14), none, (.mv (.tmp 154))⟩]) .skip)) (.seq (.reg [⟨(some 155), none, (.mv (.tmp 12))⟩, ⟨(some 156), none, (.mv (.tmp 13))⟩, ⟨(some 157), none, (.iaddr 3 none (.tmp 155) (.tmp 156))⟩, ⟨(some 158), none, (.load 3 true (.tmp 157))⟩, ⟨(some 159), none, (.mv (.tmp 14))⟩, ⟨(some 160), none, (.callf (.func 59) [(.tmp 159)])⟩, ⟨(some 161), none, (.callf (.func 46) [(.tmp 158), (.tmp 160)])⟩, ⟨(some 162), none, (.bin .neq (.tmp 161) (.const (.int .i64 (0))))⟩]) (.cond (.tmp 162) (.seq (.reg [⟨(some 2), none, (.mv (.const (.bool false)))⟩]) .ret) .skip))))) (.reg [⟨(some 142), none, (.mv (.tmp 13))⟩, ⟨(some 143), none, (.bin .add (.tmp 142) (.const (.int .i64 (1))))⟩, ⟨(some 13), none, (.mv (.tmp 143))⟩])))
abbrev c15_b2 : CC := (.seq (.reg [⟨(some 111), none, (.bin .lss (.tmp 110) (.tmp 109))⟩]) (.seq (.cond (.tmp 111) .skip (.exit 2)) (.seq (.block 3 (.seq (.reg [⟨(some 112), none, (.mv (.tmp 110))⟩, ⟨(some 113), none, (.iaddr 6 none (.tmp 108) (.tmp 110))⟩, ⟨(some 114), none, (.load 6 true (.tmp 113))⟩, ⟨(some 11), none, (.new 96 [(.string ⟨#[]⟩), (.slice none 0 0), (.int .i64 (0)), (.bool false), (.slice none 0 0), (.slice none 0 0)])⟩, ⟨(some 10), none, (.mv (.tmp 112))⟩, ⟨none, none, (.store 6 (.tmp 11) (.tmp 114))⟩]) (.seq (.reg [⟨(some 115), none, (.faddr 0 (.tmp 3))⟩, ⟨(some 116), none, (.load 1 false (.tmp 115))⟩, ⟨(some 117), none, (.mv (.tmp 10))⟩, ⟨(some 118), none, (.iaddr 1 none (.tmp 116) (.tmp 117))⟩, ⟨(some 119), none, (.load 1 false (.tmp 118))⟩, ⟨(some 12), none, (.mv (.tmp 119))⟩]) (.seq (.seq (.regn false [⟨(some 120), none, (.mv (.tmp 12))⟩, ⟨(some 121), none, (.mv (.tmp 5))⟩, ⟨(some 122), none, (.cutc 3 (.tmp 120) none (some (.tmp 121)) none)⟩, ⟨(some 123), none, (.faddr 1 (.tmp 11))⟩, ⟨(some 124), none, (.load 1 false (.tmp 123))⟩, ⟨(some 125), none, (.callf (.func 51) [(.tmp 122), (.tmp 124)])⟩, ⟨(some 126), none, (.un .not (.tmp 125))⟩, ⟨(some 127), none, (.mv (.tmp 126))⟩, ⟨(some 128), (some (127, false)), (.faddr 1 (.tmp 3))⟩, ⟨(some 129), (some (127, false)), (.load 1 false (.tmp 128))⟩, ⟨(some 130), (some (127, false)), (.mv (.tmp 10))⟩, ⟨(some 131), (some (127, false)), (.iaddr 3 none (.tmp 129) (.tmp 130))⟩, ⟨(some 132), (some (127, false)), (.load 3 true (.tmp 131))⟩, ⟨(some 133), (some (127, false)), (.faddr 3 (.tmp 11))⟩, ⟨(some 134), (some (127, false)), (.load 3 true (.tmp 133))⟩, ⟨(some 135), (some (127, false)), (.callf (.func 46) [(.tmp 132), (.tmp 134)])⟩, ⟨(some 136), (some (127, false)), (.bin .neq (.tmp 135) (.const (.int .i64 (0))))⟩, ⟨(some 137), none, (.pick (.tmp 127) (.const (.bool true)) (.tmp 136))⟩]) (.cond (.tmp 137) (.seq (.reg [⟨(some 2), none, (.mv (.const (.bool false)))⟩]) .ret) .skip)) (.seq (.seq (.reg [⟨(some 138), none, (.mv (.tmp 5))⟩, ⟨(some 13), none, (.mv (.tmp 138))⟩]) (.block 4 (.loop c15_b1))) c15_k3))))) c15_k2)))
abbrev c15_k4 : CC := (.seq (.seq (.regn false [⟨(some 65), none, (.mv (.tmp 4))⟩, ⟨(some 66), none, (.bin .neq (.tmp 65) (.const (.int .i64 (0))))⟩, ⟨(some 67), none, (.mv (.tmp 66))⟩, ⟨(some 68), (some (67, false)), (.load 3 true (.tmp 3))⟩, ⟨(some 69), (some (67, false)), (.callf (.func 70) [(.tmp 68)])⟩, ⟨(some 70), (some (67, false)), (.un .not (.tmp 69))⟩, ⟨(some 71), none, (.pick (.tmp 67) (.const (.bool true)) (.tmp 70))⟩, ⟨(some 72), none, (.mv (.tmp 71))⟩, ⟨(some 73), (some (72, false)), (.faddr 2 (.tmp 3))⟩, ⟨(some 74), (some (72, false)), (.load 1 false (.tmp 73))⟩, ⟨(some 75), (some (72, false)), (.len false (.tmp 74))⟩, ⟨(some 76), (some (72, false)), (.mv (.tmp 6))⟩, ⟨(some 77), (some (72, false)), (.bin .neq (.tmp 75) (.tmp 76))⟩, ⟨(some 78), none, (.pick (.tmp 72) (.const (.bool true)) (.tmp 77))⟩, ⟨(some 79), none, (.mv (.tmp 78))⟩, ⟨(some 80), (some (79, false)), (.faddr 0 (.tmp 3))⟩, ⟨(some 81), (some (79, false)), (.load 1 false (.tmp 80))⟩, ⟨(some 82), (some (79, false)), (.len false (.tmp 81))⟩, ⟨(some 83), (some (79, false)), (.faddr 2 (.tmp 1))⟩, ⟨(some 84), (some (79, false)), (.load 1 false (.tmp 83))⟩, ⟨(some 85), (some (79, false)), (.len false (.tmp 84))⟩, ⟨(some 86), (some (79, false)), (.bin .neq (.tmp 82) (.tmp 85))⟩, ⟨(some 87), none, (.pick (.tmp 79) (.const (.bool true)) (.tmp 86))⟩, ⟨(some 88), none, (.mv (.tmp 87))⟩, ⟨(some 89), (some (88, false)), (.faddr 2 (.tmp 3))⟩, ⟨(some 90), (some (88, false)), (.load 1 false (.tmp 89))⟩, ⟨(some 91), (some (88, false)), (.mv (.tmp 5))⟩, ⟨(some 92), (some (88, false)), (.cutc 3 (.tmp 90) none (some (.tmp 91)) none)⟩, ⟨(some 93), (some (88, false)), (.faddr 1 (.tmp 1))⟩, ⟨(some 94), (some (88, false)), (.load 1 false (.tmp 93))⟩, ⟨(some 95), (some (88, false)), (.callf (.func 51) [(.tmp 92), (.tmp 94)])⟩, ⟨(some 96), (some (88, false)), (.un .not (.tmp 95))⟩, ⟨(some 97), none, (.pick (.tmp 88) (.const (.bool true)) (.tmp 96))⟩, ⟨(some 98), none, (.mv (.tmp 97))⟩, ⟨(some 99), (some (98, false)), (.faddr 2 (.tmp 3))⟩, ⟨(some 100), (some (98, false)), (.load 1 false (.tmp 99))⟩, ⟨(some 101), (some (98, false)), (.mv (.tmp 5))⟩, ⟨(some 102), (some (98, false)), (.cutc 3 (.tmp 100) (some (.tmp 101)) none none)⟩, ⟨(some 103), (some (98, false)), (.callf (.func 52) [(.tmp 102)])⟩, ⟨(some 104), (some (98, false)), (.un .not (.tmp 103))⟩, ⟨(some 105), none, (.pick (.tmp 98) (.const (.bool true)) (.tmp 104))⟩]) (.cond (.tmp 105) (.seq (.reg [⟨(some 2), none, (.mv (.const (.bool false)))⟩]) .ret) .skip)) (.seq (.reg [⟨(some 106), none, (.mv (.tmp 5))⟩, ⟨(some 9), none, (.mv (.tmp 106))⟩]) (.seq (.seq (.reg [⟨(some 107), none, (.faddr 2 (.tmp 1))⟩, ⟨(some 108), none, (.load 1 false (.tmp 107))⟩, ⟨(some 109), none, (.len false (.tmp 108))⟩, ⟨(some 110), none, (.mv (.const (.int .i64 (0))))⟩]) (.block 2 (.loop c15_b2))) c15_k1)))
abbrev c15_b3 : CC := (.seq (.reg [⟨(some 54), none, (.bin .lss (.tmp 53) (.tmp 52))⟩]) (.seq (.cond (.tmp 54) .skip (.exit 0)) (.seq (.block 1 (.seq (.reg [⟨(some 55), none, (.iaddr 6 none (.tmp 51) (.tmp 53))⟩, ⟨(some 56), none, (.load 6 true (.tmp 55))⟩, ⟨(some 8), none, (.new 96 [(.string ⟨#[]⟩), (.slice none 0 0), (.int .i64 (0)), (.bool false), (.slice none 0 0), (.slice none 0 0)])⟩, ⟨none, none, (.store 6 (.tmp 8) (.tmp 56))⟩]) (.reg [⟨(some 57), none, (.mv (.tmp 6))⟩, ⟨(some 58), none, (.faddr 2 (.tmp 8))⟩, ⟨(some 59), none, (.load 1 false (.tmp 58))⟩, ⟨(some 60), none, (.faddr 2 (.tmp 8))⟩, ⟨(some 61), none, (.load 1 false (.tmp 60))⟩, ⟨(some 62), none, (.bin .mul (.tmp 59) (.tmp 61))⟩, ⟨(some 63), none, (.bin .add (.tmp 57) (.tmp 62))⟩, ⟨(some 6), none, (.mv (.tmp 63))⟩]))) (.reg [⟨(some 64), none, (.bin .add (.tmp 53) (.const (.int .i64 (1))))⟩, ⟨(some 53), none, (.mv (.tmp 64))⟩]))))
abbrev c15 : CC := (.seq (.reg [⟨(some 1), none, (.box 91 (.tmp 0))⟩, ⟨(some 2), none, (.mv (.const (.bool false)))⟩]) (.seq (.seq (.reg [⟨(some 15), none, (.load 3 true (.tmp 1))⟩, ⟨(some 16), none, (.callf (.func 71) [(.tmp 15)])⟩, ⟨(some 17), none, (.un .not (.tmp 16))⟩]) (.cond (.tmp 17) (.seq (.reg [⟨(some 18), none, (.callf (.func 67) [])⟩, ⟨(some 2), none, (.mv (.tmp 18))⟩]) .ret) .skip)) (.seq (.reg [⟨(some 20), none, (.load 3 true (.tmp 1))⟩, ⟨(some 21), none, (.callf (.func 72) [(.tmp 20)])⟩, ⟨(some 19), none, (.mv (.tmp 21))⟩, ⟨(some 22), none, (.ext (.tmp 19) 0)⟩, ⟨(some 23), none, (.ext (.tmp 19) 1)⟩, ⟨(some 3), none, (.new 86 [(.slice none 0 0), (.slice none 0 0), (.slice none 0 0)])⟩, ⟨none, none, (.store 3 (.tmp 3) (.tmp 22))⟩, ⟨(some 4), none, (.mv (.tmp 23))⟩]) (.seq (.seq (.reg [⟨(some 24), none, (.load 3 true (.tmp 1))⟩, ⟨(some 25), none, (.callf (.func 73) [(.tmp 24)])⟩, ⟨(some 26), none, (.un .not (.tmp 25))⟩]) (.cond (.tmp 26) (.seq (.reg [⟨(some 27), none, (.faddr 0 (.tmp 3))⟩, ⟨(some 28), none, (.load 1 false (.tmp 27))⟩, ⟨(some 29), none, (.len false (.tmp 28))⟩, ⟨(some 30), none, (.faddr 1 (.tmp 3))⟩, ⟨(some 31), none, (.load 1 false (.tmp 30))⟩, ⟨(some 32), none, (.len false (.tmp 31))⟩, ⟨(some 33), none, (.bin .add (.tmp 29) (.tmp 32))⟩, ⟨(some 34), none, (.faddr 2 (.tmp 3))⟩, ⟨(some 35), none, (.load 1 false (.tmp 34))⟩, ⟨(some 36), none, (.len false (.tmp 35))⟩, ⟨(some 37), none, (.bin .add (.tmp 33) (.tmp 36))⟩, ⟨(some 38), none, (.bin .eql (.tmp 37) (.const (.int .i64 (0))))⟩, ⟨(some 39), none, (.mv (.tmp 38))⟩, ⟨(some 40), (some (39, true)), (.mv (.tmp 4))⟩, ⟨(some 41), (some (39, true)), (.bin .eql (.tmp 40) (.const (.int .i64 (1))))⟩, ⟨(some 42), none, (.pick (.tmp 39) (.tmp 41) (.const (.bool false)))⟩, ⟨(some 43), none, (.mv (.tmp 42))⟩, ⟨(some 44), (some (43, true)), (.callf (.func 67) [])⟩, ⟨(some 45), none, (.pick (.tmp 43) (.tmp 44) (.const (.bool false)))⟩, ⟨(some 2), none, (.mv (.tmp 45))⟩]) .ret) .skip)) (.seq (.reg [⟨(some 46), none, (.faddr 0 (.tmp 1))⟩, ⟨(some 47), none, (.load 1 false (.tmp 46))⟩, ⟨(some 48), none, (.len false (.tmp 47))⟩, ⟨(some 5), none, (.mv (.tmp 48))⟩]) (.seq (.reg [⟨(some 49), none, (.mv (.tmp 5))⟩, ⟨(some 6), none, (.mv (.tmp 49))⟩]) (.seq (.seq (.reg [⟨(some 50), none, (.faddr 2 (.tmp 1))⟩, ⟨(some 51), none, (.load 1 false (.tmp 50))⟩, ⟨(some 52), none, (.len false (.tmp 51))⟩, ⟨(some 53), none, (.mv (.const (.int .i64 (0))))⟩]) (.block 0 (.loop c15_b3))) c15_k4)))))))
theorem cc15 : ccode Try.prog [] (Try.f15.body.getD .skip) = some c15 := by kernel_rfl
theorem body15 : Try.f15.body = some (Try.f15.body.getD .skip) := rfl

theorem shapeOf_C (m : MD) : PureC Try.prog 15 [aMd m] (.ret (aB true)) := by
  have hfm := fewMd_C m
  have haw := awake11_C
  cases c1 : fewMd m with
  | false =>
    rw [c1] at hfm
    refine pureC_of (rs := [(RV.tmp 2)]) Try.func15 (fun a w => Try.call15 a w) body15 cc15 (by kernel_rfl) ?_
    rw [Try.ntmps15]
    simp only [frs, Nat.reduceAdd, Nat.reduceSub]
    repeat (first | (with_reducible first | refine Way.imp ?_ | refine blk_o rfl ?_) | ((with_reducible refine WayR.imp (fun K hK => ?_)); simp (disch := first | omega | (simp only [dls]; omega)) only [std, reduceIte, reduceCtorEq, Int.reduceToNat, Nat.reduceAdd, Nat.reduceSub, Nat.reduceMul, Int.reduceAdd, Int.reduceSub, Int.reduceMul, Int.reduceNeg, fU]; subst hK) | refine zcA (hfm) rfl rfl rfl ?_ | refine zcA (haw) rfl rfl rfl ?_)
    exact ⟨_, rfl, rfl⟩
  | true =>
  rw [c1] at hfm
  have fm := fewMd_is c1
  have hm := mright_C m fm.names fm.rnames
  cases c3 : rightMd m with
  | false =>
    rw [c3] at hm
    have hof := sof_no m fm.names fm.rnames c3
    refine pureC_of (rs := [(RV.tmp 2)]) Try.func15 (fun a w => Try.call15 a w) body15 cc15 (by kernel_rfl) ?_
    rw [Try.ntmps15]
    simp only [frs, Nat.reduceAdd, Nat.reduceSub]
    repeat (first | (with_reducible first | refine Way.imp ?_ | refine blk_o rfl ?_) | ((with_reducible refine WayR.imp (fun K hK => ?_)); simp (disch := first | omega | (simp only [dls]; omega)) only [std, reduceIte, reduceCtorEq, Int.reduceToNat, Nat.reduceAdd, Nat.reduceSub, Nat.reduceMul, Int.reduceAdd, Int.reduceSub, Int.reduceMul, Int.reduceNeg, fU]; subst hK) | refine zcA (hfm) rfl rfl rfl ?_ | refine zcA (hof) rfl rfl rfl ?_ | refine zcA (hm) rfl rfl rfl ?_ | (apply call_any_g (haw) rfl; (case hg => simp (disch := first | omega | (simp only [dls]; omega)) only [std, reduceIte, reduceCtorEq, Int.reduceToNat, Nat.reduceAdd, Nat.reduceSub, Nat.reduceMul, Int.reduceAdd, Int.reduceSub, Int.reduceMul, Int.reduceNeg, fU]); (case hcl => (simp only [evs, St.ev, constAV, evl]; (repeat (first | exact closeAVs_nil | (apply closeAVs_cons; (first | (refine close_own3 rfl (by decide)) | (refine close_ownO rfl (by decide) ?_; assumption) | rfl)))); done)); (case hu => rfl)))
    exact ⟨_, rfl, rfl⟩
  | true =>
  rw [c3] at hm
  have rt := rt_of c3
  have hR6 := fm.rows
  have hv8 := fm.vars
  have hof := sof_yes m 8 3 fm.fits (by decide) (by decide) (by decide) fm.names fm.rnames c3
  have fP := fits_ofP rt fm
  have hPr := sright_C (ofP m)
  rw [ofP_right rt] at hPr
  have hA := ofP_A m
  have hBl := ofP_Bl m
  have hCl := ofP_Cl rt
  have hvN : (osl m.vars).length ≤ ofN m := by unfold ofN; omega
  have hN : ofN m = (osl m.vars).length + slackN m (osl m.rows).length := rfl
  have hsR := slackN_le m (osl m.rows).length
  have s1 := vsame_C (cutV (osl m.vars).length (ofP m).C) m.cost 14 3 (fits_cut fP.2.2) ⟨by have := fm.fits.1.1; omega, fm.fits.1.2⟩ (by decide) (by decide)
  rw [same_of (by rw [osl_cut, List.length_take, hCl, rt.cost]; omega) (fun k hk => by
    rw [osl_cut, List.length_take, hCl] at hk
    rw [qAt_cut _ (by omega), ofP_C])] at s1
  have z1 := vzero_C (loV (osl m.vars).length (ofP m).C) 14 3 (fits_lo fP.2.2) (by decide) (by decide)
  rw [zero_lo (fun k h1 _ => by rw [ofP_C, qAt_past (by rw [rt.cost]; exact h1)])] at z1
  have hrow : ∀ i, i < (osl m.rows).length → RowIs m i (mAt (ofP m).A i) := fun i hi => row_is rt fm hi
  have hB : ∀ i, i < (osl m.rows).length → rAt (ofP m).B i = rawQ (rwAt m i).b.val := fun i hi => by
    have h1 := ofP_B m hi
    show rAt (rowV (ofB m (osl m.rows).length)) i = _
    rw [rAt_rowV _ (by unfold ofB; rw [List.length_map, List.length_range]; exact hi), ← rowV_get]
    exact congrArg rawQ h1
  clear fP
  generalize ofP m = P at *
  refine pureC_of (rs := [(RV.tmp 2)]) Try.func15 (fun a w => Try.call15 a w) body15 cc15 (by kernel_rfl) ?_
  rw [Try.ntmps15]
  simp only [frs, Nat.reduceAdd, Nat.reduceSub]
  repeat (first | (with_reducible first | refine Way.imp ?_ | refine blk_o rfl ?_) | ((with_reducible refine WayR.imp (fun K hK => ?_)); simp (disch := first | omega | (simp only [dls]; omega)) only [std, reduceIte, reduceCtorEq, Int.reduceToNat, Nat.reduceAdd, Nat.reduceSub, Nat.reduceMul, Int.reduceAdd, Int.reduceSub, Int.reduceMul, Int.reduceNeg, fU]; subst hK) | refine zcA (hfm) rfl rfl rfl ?_ | refine zcA (hof) rfl rfl rfl ?_ | refine zcA (hm) rfl rfl rfl ?_)
  refine awp_loop (fun (zz : Nat) => ⟨(.junk :: .one (.ptr 0 0 0 0) :: .junk :: .one (.ptr 1 0 0 0) :: aI 0 :: aI (osl m.vars).length :: aI ((osl m.vars).length + slackN m zz : Nat) :: .junk :: .junk :: .junk :: .junk :: .junk :: .junk :: .junk :: .junk :: .junk :: .junk :: .junk :: .junk :: .junk :: .junk :: .junk :: .junk :: .junk :: .junk :: .junk :: .junk :: .junk :: .junk :: .junk :: .junk :: .junk :: .junk :: .junk :: .junk :: .junk :: .junk :: .junk :: .junk :: .junk :: .junk :: .junk :: .junk :: .junk :: .junk :: .junk :: .junk :: .junk :: .junk :: .junk :: .junk :: .one (.c (encSl 6 fRow m.rows)) :: aI (osl m.rows).length :: aI zz :: .junk :: .junk :: .junk :: .junk :: .junk :: .junk :: .junk :: .junk :: .junk :: .junk :: .junk :: .junk :: .junk :: .junk :: .junk :: .junk :: .junk :: .junk :: .junk :: .junk :: .junk :: .junk :: .junk :: .junk :: .junk :: .junk :: .junk :: .junk :: .junk :: .junk :: .junk :: .junk :: .junk :: .junk :: .junk :: .junk :: .junk :: .junk :: .junk :: .junk :: .junk :: .junk :: .junk :: .junk :: .junk :: .junk :: .junk :: .junk :: .junk :: .junk :: .junk :: .junk :: .junk :: .junk :: .junk :: .junk :: .junk :: .junk :: .junk :: .junk :: .junk :: .junk :: .junk :: .junk :: .junk :: .junk :: .junk :: .junk :: .junk :: .junk :: .junk :: .junk :: .junk :: .junk :: .junk :: .junk :: .junk :: .junk :: .junk :: .junk :: .junk :: .junk :: .junk :: .junk :: .junk :: .junk :: .junk :: .junk :: .junk :: .junk :: .junk :: .junk :: .junk :: .junk :: .junk :: .junk :: .junk :: .junk :: .junk :: .junk :: .junk :: .junk :: .junk :: .junk :: .junk :: .junk :: .junk :: .junk :: .junk :: .junk :: .junk :: .junk :: .junk :: .junk :: .junk :: .junk :: .junk :: .junk :: []), [⟨0, 91, 3, [[.c (encSl 1 fW m.vars), .c (vr m.cost), .c (encSl 6 fRow m.rows)]], true, true⟩, ⟨0, 86, 3, [[.c (encSl 1 fM P.A), .c (vr P.B), .c (vr P.C)]], true, true⟩]⟩) (fun (zz : Nat) => zz ≤ (osl m.rows).length) (fun (zz : Nat) => (osl m.rows).length - zz) (0) ?hI1 (Fgt.head (Nat.zero_le 2) (false :: true :: false :: true :: true :: true :: true :: false :: false :: false :: false :: false :: false :: false :: false :: false :: false :: false :: false :: false :: false :: false :: false :: false :: false :: false :: false :: false :: false :: false :: false :: false :: false :: false :: false :: false :: false :: false :: false :: false :: false :: false :: false :: false :: false :: false :: false :: false :: false :: false :: false :: true :: true :: true :: []) ?hT1 ?hH1) ?hB1
  case hT1 => first | (simp (disch := omega) only [hds, liveT, cleanAV, cleanCell, clean1, cleanBlk, reduceIte, Int.reduceSub, Int.reduceAdd, Int.reduceNeg, slackN_zero, Nat.add_zero]; done) | rfl
  case hH1 => first | (simp (disch := omega) only [hds, liveT, cleanAV, cleanCell, clean1, cleanBlk, reduceIte, Int.reduceSub, Int.reduceAdd, Int.reduceNeg, slackN_zero, Nat.add_zero]; done) | rfl
  · exact Nat.zero_le _
  rintro i hi
  by_cases him : i = (osl m.rows).length
  case neg =>
    have hlt : i < (osl m.rows).length := by omega
    have hsl := slackN_le m i
    have hss := slackN_succ m hlt
    obtain ⟨_, r1, r2⟩ := rt.row i hlt
    rw [rwAt_in hlt] at r1 r2
    have hc : (osl m.rows)[i].rel = 0 ∨ (osl m.rows)[i].rel = -1 ∨ (osl m.rows)[i].rel = 1 := by omega
    rcases hc with hc | hc | hc
    · rw [if_pos hc] at hss
      have hss2 : slackN m (i + 1) = slackN m i := by omega
      repeat (first | (with_reducible first | refine Way.imp ?_ | refine blk_o rfl ?_) | ((with_reducible refine WayR.imp (fun K hK => ?_)); simp (disch := first | omega | (simp only [dls]; omega)) only [std, reduceIte, reduceCtorEq, Int.reduceToNat, Nat.reduceAdd, Nat.reduceSub, Nat.reduceMul, Int.reduceAdd, Int.reduceSub, Int.reduceMul, Int.reduceNeg, fU, fRow, hc, Int.add_zero]; subst hK))
      refine ⟨(i + 1), ?hI2, ?hM2, Fgt.head (Nat.zero_le 2) (false :: true :: false :: true :: true :: true :: true :: false :: false :: false :: false :: false :: false :: false :: false :: false :: false :: false :: false :: false :: false :: false :: false :: false :: false :: false :: false :: false :: false :: false :: false :: false :: false :: false :: false :: false :: false :: false :: false :: false :: false :: false :: false :: false :: false :: false :: false :: false :: false :: false :: false :: true :: true :: true :: []) ?hT2 ?hH2⟩
      case hT2 => first | (simp (disch := omega) only [hds, liveT, cleanAV, cleanCell, clean1, cleanBlk, reduceIte, Int.reduceSub, Int.reduceAdd, Int.reduceNeg, hss2]; done) | rfl
      case hH2 => first | (simp (disch := omega) only [hds, liveT, cleanAV, cleanCell, clean1, cleanBlk, reduceIte, Int.reduceSub, Int.reduceAdd, Int.reduceNeg, hss2]; done) | rfl
      · omega
      · omega
    · rw [if_neg (by omega)] at hss
      have hss2 : (((osl m.vars).length + slackN m (i + 1) : Nat) : Int) = ((osl m.vars).length + slackN m i : Nat) + 1 := by omega
      repeat (first | (with_reducible first | refine Way.imp ?_ | refine blk_o rfl ?_) | ((with_reducible refine WayR.imp (fun K hK => ?_)); simp (disch := first | omega | (simp only [dls]; omega)) only [std, reduceIte, reduceCtorEq, Int.reduceToNat, Nat.reduceAdd, Nat.reduceSub, Nat.reduceMul, Int.reduceAdd, Int.reduceSub, Int.reduceMul, Int.reduceNeg, fU, fRow, hc]; subst hK))
      refine ⟨(i + 1), ?hI3, ?hM3, Fgt.head (Nat.zero_le 2) (false :: true :: false :: true :: true :: true :: true :: false :: false :: false :: false :: false :: false :: false :: false :: false :: false :: false :: false :: false :: false :: false :: false :: false :: false :: false :: false :: false :: false :: false :: false :: false :: false :: false :: false :: false :: false :: false :: false :: false :: false :: false :: false :: false :: false :: false :: false :: false :: false :: false :: false :: true :: true :: true :: []) ?hT3 ?hH3⟩
      case hT3 => first | (simp (disch := omega) only [hds, liveT, cleanAV, cleanCell, clean1, cleanBlk, reduceIte, Int.reduceSub, Int.reduceAdd, Int.reduceNeg, hss2]; done) | rfl
      case hH3 => first | (simp (disch := omega) only [hds, liveT, cleanAV, cleanCell, clean1, cleanBlk, reduceIte, Int.reduceSub, Int.reduceAdd, Int.reduceNeg, hss2]; done) | rfl
      · omega
      · omega
    · rw [if_neg (by omega)] at hss
      have hss2 : (((osl m.vars).length + slackN m (i + 1) : Nat) : Int) = ((osl m.vars).length + slackN m i : Nat) + 1 := by omega
      repeat (first | (with_reducible first | refine Way.imp ?_ | refine blk_o rfl ?_) | ((with_reducible refine WayR.imp (fun K hK => ?_)); simp (disch := first | omega | (simp only [dls]; omega)) only [std, reduceIte, reduceCtorEq, Int.reduceToNat, Nat.reduceAdd, Nat.reduceSub, Nat.reduceMul, Int.reduceAdd, Int.reduceSub, Int.reduceMul, Int.reduceNeg, fU, fRow, hc]; subst hK))
      refine ⟨(i + 1), ?hI4, ?hM4, Fgt.head (Nat.zero_le 2) (false :: true :: false :: true :: true :: true :: true :: false :: false :: false :: false :: false :: false :: false :: false :: false :: false :: false :: false :: false :: false :: false :: false :: false :: false :: false :: false :: false :: false :: false :: false :: false :: false :: false :: false :: false :: false :: false :: false :: false :: false :: false :: false :: false :: false :: false :: false :: false :: false :: false :: false :: true :: true :: true :: []) ?hT4 ?hH4⟩
      case hT4 => first | (simp (disch := omega) only [hds, liveT, cleanAV, cleanCell, clean1, cleanBlk, reduceIte, Int.reduceSub, Int.reduceAdd, Int.reduceNeg, hss2]; done) | rfl
      case hH4 => first | (simp (disch := omega) only [hds, liveT, cleanAV, cleanCell, clean1, cleanBlk, reduceIte, Int.reduceSub, Int.reduceAdd, Int.reduceNeg, hss2]; done) | rfl
      · omega
      · omega
  rw [him, ← hN]
  repeat (first | (with_reducible first | refine Way.imp ?_ | refine blk_o rfl ?_) | ((with_reducible refine WayR.imp (fun K hK => ?_)); simp (disch := first | omega | (simp only [dls]; omega)) only [std, reduceIte, reduceCtorEq, Int.reduceToNat, Nat.reduceAdd, Nat.reduceSub, Nat.reduceMul, Int.reduceAdd, Int.reduceSub, Int.reduceMul, Int.reduceNeg, fU, hA, hCl]; subst hK) | (apply call_any_g (hPr) rfl; (case hg => simp (disch := first | omega | (simp only [dls]; omega)) only [std, reduceIte, reduceCtorEq, Int.reduceToNat, Nat.reduceAdd, Nat.reduceSub, Nat.reduceMul, Int.reduceAdd, Int.reduceSub, Int.reduceMul, Int.reduceNeg, fU, hA, hCl]); (case hcl => (simp only [evs, St.ev, constAV, evl]; (repeat (first | exact closeAVs_nil | (apply closeAVs_cons; (first | (refine close_own3 rfl (by decide)) | (refine close_ownO rfl (by decide) ?_; assumption) | rfl)))); done)); (case hu => rfl)) | (apply call_any_g (s1) rfl; (case hg => simp (disch := first | omega | (simp only [dls]; omega)) only [std, reduceIte, reduceCtorEq, Int.reduceToNat, Nat.reduceAdd, Nat.reduceSub, Nat.reduceMul, Int.reduceAdd, Int.reduceSub, Int.reduceMul, Int.reduceNeg, fU, hA, hCl]); (case hcl => (simp only [evs, St.ev, constAV, evl]; (repeat (first | exact closeAVs_nil | (apply closeAVs_cons; (first | (refine close_own3 rfl (by decide)) | (refine close_ownO rfl (by decide) ?_; assumption) | rfl)))); done)); (case hu => rfl)) | (apply call_any_g (z1) rfl; (case hg => simp (disch := first | omega | (simp only [dls]; omega)) only [std, reduceIte, reduceCtorEq, Int.reduceToNat, Nat.reduceAdd, Nat.reduceSub, Nat.reduceMul, Int.reduceAdd, Int.reduceSub, Int.reduceMul, Int.reduceNeg, fU, hA, hCl]); (case hcl => (simp only [evs, St.ev, constAV, evl]; (repeat (first | exact closeAVs_nil | (apply closeAVs_cons; (first | (refine close_own3 rfl (by decide)) | (refine close_ownO rfl (by decide) ?_; assumption) | rfl)))); done)); (case hu => rfl)))
  refine awp_loop (fun (zz : Nat) => ⟨(.junk :: .one (.ptr 0 0 0 0) :: .junk :: .one (.ptr 1 0 0 0) :: .junk :: aI (osl m.vars).length :: aI (ofN m) :: .junk :: .junk :: aI ((osl m.vars).length + slackN m zz : Nat) :: .junk :: .junk :: .junk :: .junk :: .junk :: .junk :: .junk :: .junk :: .junk :: .junk :: .junk :: .junk :: .junk :: .junk :: .junk :: .junk :: .junk :: .junk :: .junk :: .junk :: .junk :: .junk :: .junk :: .junk :: .junk :: .junk :: .junk :: .junk :: .junk :: .junk :: .junk :: .junk :: .junk :: .junk :: .junk :: .junk :: .junk :: .junk :: .junk :: .junk :: .junk :: .junk :: .junk :: .junk :: .junk :: .junk :: .junk :: .junk :: .junk :: .junk :: .junk :: .junk :: .junk :: .junk :: .junk :: .junk :: .junk :: .junk :: .junk :: .junk :: .junk :: .junk :: .junk :: .junk :: .junk :: .junk :: .junk :: .junk :: .junk :: .junk :: .junk :: .junk :: .junk :: .junk :: .junk :: .junk :: .junk :: .junk :: .junk :: .junk :: .junk :: .junk :: .junk :: .junk :: .junk :: .junk :: .junk :: .junk :: .junk :: .junk :: .junk :: .junk :: .junk :: .junk :: .junk :: .junk :: .junk :: .junk :: .one (.c (encSl 6 fRow m.rows)) :: aI (osl m.rows).length :: aI zz :: .junk :: .junk :: .junk :: .junk :: .junk :: .junk :: .junk :: .junk :: .junk :: .junk :: .junk :: .junk :: .junk :: .junk :: .junk :: .junk :: .junk :: .junk :: .junk :: .junk :: .junk :: .junk :: .junk :: .junk :: .junk :: .junk :: .junk :: .junk :: .junk :: .junk :: .junk :: .junk :: .junk :: .junk :: .junk :: .junk :: .junk :: .junk :: .junk :: .junk :: .junk :: .junk :: .junk :: .junk :: .junk :: .junk :: .junk :: .junk :: .junk :: .junk :: .junk :: .junk :: .junk :: .junk :: .junk :: .junk :: .junk :: .junk :: .junk :: .junk :: .junk :: []), [⟨0, 91, 3, [[.c (encSl 1 fW m.vars), .c (vr m.cost), .c (encSl 6 fRow m.rows)]], true, true⟩, ⟨0, 86, 3, [[.c (encSl 1 fM P.A), .c (vr P.B), .c (vr P.C)]], true, true⟩]⟩) (fun (zz : Nat) => zz ≤ (osl m.rows).length) (fun (zz : Nat) => (osl m.rows).length - zz) (0) ?hI5 (Fgt.head (Nat.zero_le 2) (false :: true :: false :: true :: false :: true :: true :: false :: false :: true :: false :: false :: false :: false :: false :: false :: false :: false :: false :: false :: false :: false :: false :: false :: false :: false :: false :: false :: false :: false :: false :: false :: false :: false :: false :: false :: false :: false :: false :: false :: false :: false :: false :: false :: false :: false :: false :: false :: false :: false :: false :: false :: false :: false :: false :: false :: false :: false :: false :: false :: false :: false :: false :: false :: false :: false :: false :: false :: false :: false :: false :: false :: false :: false :: false :: false :: false :: false :: false :: false :: false :: false :: false :: false :: false :: false :: false :: false :: false :: false :: false :: false :: false :: false :: false :: false :: false :: false :: false :: false :: false :: false :: false :: false :: false :: false :: false :: false :: true :: true :: true :: []) ?hT5 ?hH5) ?hB5
  case hT5 => first | (simp (disch := omega) only [hds, liveT, cleanAV, cleanCell, clean1, cleanBlk, reduceIte, Int.reduceSub, Int.reduceAdd, Int.reduceNeg, slackN_zero, Nat.add_zero]; done) | rfl
  case hH5 => first | (simp (disch := omega) only [hds, liveT, cleanAV, cleanCell, clean1, cleanBlk, reduceIte, Int.reduceSub, Int.reduceAdd, Int.reduceNeg, slackN_zero, Nat.add_zero]; done) | rfl
  · exact Nat.zero_le _
  rintro i hi
  by_cases him : i = (osl m.rows).length
  case pos =>
    repeat (first | (with_reducible first | refine Way.imp ?_ | refine blk_o rfl ?_) | ((with_reducible refine WayR.imp (fun K hK => ?_)); simp (disch := first | omega | (simp only [dls]; omega)) only [std, reduceIte, reduceCtorEq, Int.reduceToNat, Nat.reduceAdd, Nat.reduceSub, Nat.reduceMul, Int.reduceAdd, Int.reduceSub, Int.reduceMul, Int.reduceNeg, fU]; subst hK) | refine zcA (haw) rfl rfl rfl ?_)
    exact ⟨_, rfl, rfl⟩
  have hlt : i < (osl m.rows).length := by omega
  have hltA : i < (osl P.A).length := by omega
  have hltB : i < (osl P.B).length := by omega
  have hri := hrow i hlt
  have hbi := hB i hlt
  obtain ⟨_, r1, r2⟩ := rt.row i hlt
  have hRe : ∀ h : i < (osl P.A).length, (osl P.A)[i] = mAt P.A i := fun h => (mAt_in h).symm
  have hBe : ∀ h : i < (osl P.B).length, (osl P.B)[i] = rawQ (rwAt m i).b.val := fun h => by rw [← rAt_in h]; exact hbi
  have hfr := fm.fits.2 _ (List.getElem_mem hlt)
  have s2 := vsame_C (cutV (osl m.vars).length (mAt P.A i)) (rwAt m i).coef 14 3 (fits_cut hri.fit) (by rw [rwAt_in hlt]; exact ⟨by have := hfr.1.1; omega, hfr.1.2⟩) (by decide) (by decide)
  rw [hri.low] at s2
  have hcb := rcompare_C (rawQ (rwAt m i).b.val) (rwAt m i).b (by rw [rwAt_in hlt]; exact (fits_rawQ (hfr.2.val (by decide))).mono (by decide)) (by rw [rwAt_in hlt]; exact hfr.2.mono (by decide))
  rw [rawQ_val, cmp_eq] at hcb
  have hRl := hri.len
  have hRat := hri.at'
  have hRf := hri.fit
  have hss := slackN_succ m hlt
  have hsl := slackN_le m i
  have hmo := slackN_mono m (show i + 1 ≤ (osl m.rows).length from hlt)
  rw [rwAt_in hlt] at *
  generalize mAt P.A i = Rw at *
  repeat (first | (with_reducible first | refine Way.imp ?_ | refine blk_o rfl ?_) | ((with_reducible refine WayR.imp (fun K hK => ?_)); simp (disch := first | omega | (simp only [dls]; omega)) only [std, reduceIte, reduceCtorEq, Int.reduceToNat, Nat.reduceAdd, Nat.reduceSub, Nat.reduceMul, Int.reduceAdd, Int.reduceSub, Int.reduceMul, Int.reduceNeg, fU, fM, fR, fRow, hRe, hBe, hRl, hA]; subst hK) | refine zcA (s2) rfl rfl rfl ?_ | (apply call_any_g (hcb) rfl; (case hg => simp (disch := first | omega | (simp only [dls]; omega)) only [std, reduceIte, reduceCtorEq, Int.reduceToNat, Nat.reduceAdd, Nat.reduceSub, Nat.reduceMul, Int.reduceAdd, Int.reduceSub, Int.reduceMul, Int.reduceNeg, fU, fM, fR, fRow, hRe, hBe, hRl, hA]); (case hcl => (simp only [evs, St.ev, constAV, evl]; (repeat (first | exact closeAVs_nil | (apply closeAVs_cons; (first | (refine close_own3 rfl (by decide)) | (refine close_ownO rfl (by decide) ?_; assumption) | rfl)))); done)); (case hu => rfl)))
  refine awp_loop (fun (zz : Nat) => ⟨(.junk :: .one (.ptr 0 0 0 0) :: .junk :: .one (.ptr 1 0 0 0) :: .junk :: aI (osl m.vars).length :: aI (ofN m) :: .junk :: .junk :: aI ((osl m.vars).length + slackN m i : Nat) :: .junk :: .one (.ptr 2 0 0 0) :: aV Rw :: aI zz :: .junk :: .junk :: .junk :: .junk :: .junk :: .junk :: .junk :: .junk :: .junk :: .junk :: .junk :: .junk :: .junk :: .junk :: .junk :: .junk :: .junk :: .junk :: .junk :: .junk :: .junk :: .junk :: .junk :: .junk :: .junk :: .junk :: .junk :: .junk :: .junk :: .junk :: .junk :: .junk :: .junk :: .junk :: .junk :: .junk :: .junk :: .junk :: .junk :: .junk :: .junk :: .junk :: .junk :: .junk :: .junk :: .junk :: .junk :: .junk :: .junk :: .junk :: .junk :: .junk :: .junk :: .junk :: .junk :: .junk :: .junk :: .junk :: .junk :: .junk :: .junk :: .junk :: .junk :: .junk :: .junk :: .junk :: .junk :: .junk :: .junk :: .junk :: .junk :: .junk :: .junk :: .junk :: .junk :: .junk :: .junk :: .junk :: .junk :: .junk :: .junk :: .junk :: .junk :: .junk :: .junk :: .junk :: .junk :: .junk :: .junk :: .junk :: .junk :: .junk :: .junk :: .junk :: .one (.c (encSl 6 fRow m.rows)) :: aI (osl m.rows).length :: aI i :: .junk :: .junk :: .junk :: .junk :: .junk :: .junk :: .junk :: .junk :: .junk :: .junk :: .junk :: .junk :: .junk :: .junk :: .junk :: .junk :: .junk :: .junk :: .junk :: .junk :: .junk :: .junk :: .junk :: .junk :: .junk :: .junk :: .junk :: .junk :: .junk :: .junk :: .junk :: .junk :: .junk :: .junk :: .junk :: .junk :: .junk :: .junk :: .junk :: .junk :: .junk :: .junk :: .junk :: .junk :: .junk :: .junk :: .junk :: .junk :: .junk :: .junk :: .junk :: .junk :: .junk :: .junk :: .junk :: .junk :: .junk :: .junk :: .junk :: .junk :: .junk :: []), [⟨0, 91, 3, [[.c (encSl 1 fW m.vars), .c (vr m.cost), .c (encSl 6 fRow m.rows)]], true, true⟩, ⟨0, 86, 3, [[.c (encSl 1 fM P.A), .c (vr P.B), .c (vr P.C)]], true, true⟩, ⟨0, 96, 6, [[.c (.str (osl m.rows)[i].name), .c (vr (osl m.rows)[i].coef), .c (.val (.int .i64 (osl m.rows)[i].rel)), .c (.val (.bool (osl m.rows)[i].b.minus)), .c (nr (osl m.rows)[i].b.size), .c (nr (osl m.rows)[i].b.den)]], true, true⟩]⟩) (fun (zz : Nat) => (osl m.vars).length ≤ zz ∧ zz ≤ ofN m) (fun (zz : Nat) => ofN m - zz) ((osl m.vars).length) ?hI6 (Fgt.head (Nat.zero_le 3) (false :: true :: false :: true :: false :: true :: true :: false :: false :: true :: false :: true :: true :: true :: false :: false :: false :: false :: false :: false :: false :: false :: false :: false :: false :: false :: false :: false :: false :: false :: false :: false :: false :: false :: false :: false :: false :: false :: false :: false :: false :: false :: false :: false :: false :: false :: false :: false :: false :: false :: false :: false :: false :: false :: false :: false :: false :: false :: false :: false :: false :: false :: false :: false :: false :: false :: false :: false :: false :: false :: false :: false :: false :: false :: false :: false :: false :: false :: false :: false :: false :: false :: false :: false :: false :: false :: false :: false :: false :: false :: false :: false :: false :: false :: false :: false :: false :: false :: false :: false :: false :: false :: false :: false :: false :: false :: false :: false :: true :: true :: true :: []) ?hT6 ?hH6) ?hB6
  case hT6 => first | (simp (disch := omega) only [hds, liveT, cleanAV, cleanCell, clean1, cleanBlk, reduceIte, Int.reduceSub, Int.reduceAdd, Int.reduceNeg]; done) | rfl
  case hH6 => first | (simp (disch := omega) only [hds, liveT, cleanAV, cleanCell, clean1, cleanBlk, reduceIte, Int.reduceSub, Int.reduceAdd, Int.reduceNeg]; done) | rfl
  · exact ⟨Nat.le_refl _, hvN⟩
  rintro k ⟨hk1, hk2⟩
  have hc : (osl m.rows)[i].rel = 0 ∨ (osl m.rows)[i].rel = -1 ∨ (osl m.rows)[i].rel = 1 := by omega
  by_cases hkn : k = ofN m
  case pos =>
    rcases hc with hc | hc | hc
    · rw [if_pos hc] at hss
      have hss2 : slackN m (i + 1) = slackN m i := by omega
      repeat (first | (with_reducible first | refine Way.imp ?_ | refine blk_o rfl ?_) | ((with_reducible refine WayR.imp (fun K hK => ?_)); simp (disch := first | omega | (simp only [dls]; omega)) only [std, reduceIte, reduceCtorEq, Int.reduceToNat, Nat.reduceAdd, Nat.reduceSub, Nat.reduceMul, Int.reduceAdd, Int.reduceSub, Int.reduceMul, Int.reduceNeg, fU, hc, Int.add_zero]; subst hK))
      refine ⟨(i + 1), ?hI7, ?hM7, Fgt.head (Nat.zero_le 2) (false :: true :: false :: true :: false :: true :: true :: false :: false :: true :: false :: false :: false :: false :: false :: false :: false :: false :: false :: false :: false :: false :: false :: false :: false :: false :: false :: false :: false :: false :: false :: false :: false :: false :: false :: false :: false :: false :: false :: false :: false :: false :: false :: false :: false :: false :: false :: false :: false :: false :: false :: false :: false :: false :: false :: false :: false :: false :: false :: false :: false :: false :: false :: false :: false :: false :: false :: false :: false :: false :: false :: false :: false :: false :: false :: false :: false :: false :: false :: false :: false :: false :: false :: false :: false :: false :: false :: false :: false :: false :: false :: false :: false :: false :: false :: false :: false :: false :: false :: false :: false :: false :: false :: false :: false :: false :: false :: false :: true :: true :: true :: []) ?hT7 ?hH7⟩
      case hT7 => first | (simp (disch := omega) only [hds, liveT, cleanAV, cleanCell, clean1, cleanBlk, reduceIte, Int.reduceSub, Int.reduceAdd, Int.reduceNeg, hss2]; done) | rfl
      case hH7 => first | (simp (disch := omega) only [hds, liveT, cleanAV, cleanCell, clean1, cleanBlk, reduceIte, Int.reduceSub, Int.reduceAdd, Int.reduceNeg, hss2]; done) | rfl
      · omega
      · omega
    · rw [if_neg (by omega)] at hss
      have hss2 : (((osl m.vars).length + slackN m (i + 1) : Nat) : Int) = ((osl m.vars).length + slackN m i : Nat) + 1 := by omega
      repeat (first | (with_reducible first | refine Way.imp ?_ | refine blk_o rfl ?_) | ((with_reducible refine WayR.imp (fun K hK => ?_)); simp (disch := first | omega | (simp only [dls]; omega)) only [std, reduceIte, reduceCtorEq, Int.reduceToNat, Nat.reduceAdd, Nat.reduceSub, Nat.reduceMul, Int.reduceAdd, Int.reduceSub, Int.reduceMul, Int.reduceNeg, fU, hc]; subst hK))
      refine ⟨(i + 1), ?hI8, ?hM8, Fgt.head (Nat.zero_le 2) (false :: true :: false :: true :: false :: true :: true :: false :: false :: true :: false :: false :: false :: false :: false :: false :: false :: false :: false :: false :: false :: false :: false :: false :: false :: false :: false :: false :: false :: false :: false :: false :: false :: false :: false :: false :: false :: false :: false :: false :: false :: false :: false :: false :: false :: false :: false :: false :: false :: false :: false :: false :: false :: false :: false :: false :: false :: false :: false :: false :: false :: false :: false :: false :: false :: false :: false :: false :: false :: false :: false :: false :: false :: false :: false :: false :: false :: false :: false :: false :: false :: false :: false :: false :: false :: false :: false :: false :: false :: false :: false :: false :: false :: false :: false :: false :: false :: false :: false :: false :: false :: false :: false :: false :: false :: false :: false :: false :: true :: true :: true :: []) ?hT8 ?hH8⟩
      case hT8 => first | (simp (disch := omega) only [hds, liveT, cleanAV, cleanCell, clean1, cleanBlk, reduceIte, Int.reduceSub, Int.reduceAdd, Int.reduceNeg, hss2]; done) | rfl
      case hH8 => first | (simp (disch := omega) only [hds, liveT, cleanAV, cleanCell, clean1, cleanBlk, reduceIte, Int.reduceSub, Int.reduceAdd, Int.reduceNeg, hss2]; done) | rfl
      · omega
      · omega
    · rw [if_neg (by omega)] at hss
      have hss2 : (((osl m.vars).length + slackN m (i + 1) : Nat) : Int) = ((osl m.vars).length + slackN m i : Nat) + 1 := by omega
      repeat (first | (with_reducible first | refine Way.imp ?_ | refine blk_o rfl ?_) | ((with_reducible refine WayR.imp (fun K hK => ?_)); simp (disch := first | omega | (simp only [dls]; omega)) only [std, reduceIte, reduceCtorEq, Int.reduceToNat, Nat.reduceAdd, Nat.reduceSub, Nat.reduceMul, Int.reduceAdd, Int.reduceSub, Int.reduceMul, Int.reduceNeg, fU, hc]; subst hK))
      refine ⟨(i + 1), ?hI9, ?hM9, Fgt.head (Nat.zero_le 2) (false :: true :: false :: true :: false :: true :: true :: false :: false :: true :: false :: false :: false :: false :: false :: false :: false :: false :: false :: false :: false :: false :: false :: false :: false :: false :: false :: false :: false :: false :: false :: false :: false :: false :: false :: false :: false :: false :: false :: false :: false :: false :: false :: false :: false :: false :: false :: false :: false :: false :: false :: false :: false :: false :: false :: false :: false :: false :: false :: false :: false :: false :: false :: false :: false :: false :: false :: false :: false :: false :: false :: false :: false :: false :: false :: false :: false :: false :: false :: false :: false :: false :: false :: false :: false :: false :: false :: false :: false :: false :: false :: false :: false :: false :: false :: false :: false :: false :: false :: false :: false :: false :: false :: false :: false :: false :: false :: false :: true :: true :: true :: []) ?hT9 ?hH9⟩
      case hT9 => first | (simp (disch := omega) only [hds, liveT, cleanAV, cleanCell, clean1, cleanBlk, reduceIte, Int.reduceSub, Int.reduceAdd, Int.reduceNeg, hss2]; done) | rfl
      case hH9 => first | (simp (disch := omega) only [hds, liveT, cleanAV, cleanCell, clean1, cleanBlk, reduceIte, Int.reduceSub, Int.reduceAdd, Int.reduceNeg, hss2]; done) | rfl
      · omega
      · omega
  have hkl : k < ofN m := by omega
  have hat := hRat k hk1 hkl
  have hkR : k < (osl Rw).length := by omega
  by_cases hke : (osl m.vars).length + slackN m i = k
  · rcases hc with hc | hc | hc
    · have hek : ∀ h : k < (osl Rw).length, (osl Rw)[k] = rawQ ((0 : Int) : Rat) := fun h => by rw [← rAt_in h, hat, if_pos hke, if_pos hc]; rfl
      have hfq : FitsQ ((0 : Int) : Rat) 2 := fits_int (0) (by decide) (by decide)
      have hint := rint_C (0) (by decide) (by decide)
      have hcm := rcompare_C (rawQ ((0 : Int) : Rat)) (rawQ ((0 : Int) : Rat)) ((fits_rawQ hfq).mono (by decide)) ((fits_rawQ hfq).mono (by decide))
      rw [cmp_eq] at hcm
      generalize rawQ ((0 : Int) : Rat) = vq at *
      repeat (first | (with_reducible first | refine Way.imp ?_ | refine blk_o rfl ?_) | ((with_reducible refine WayR.imp (fun K hK => ?_)); simp (disch := first | omega | (simp only [dls]; omega)) only [std, reduceIte, reduceCtorEq, Int.reduceToNat, Nat.reduceAdd, Nat.reduceSub, Nat.reduceMul, Int.reduceAdd, Int.reduceSub, Int.reduceMul, Int.reduceNeg, fU, fR, hc, hRl, hek]; subst hK) | refine zcA (hint) rfl rfl rfl ?_ | refine zcA (hcm) rfl rfl rfl ?_)
      refine ⟨(k + 1), ?hI10, ?hM10, Fgt.head (Nat.zero_le 3) (false :: true :: false :: true :: false :: true :: true :: false :: false :: true :: false :: true :: true :: true :: false :: false :: false :: false :: false :: false :: false :: false :: false :: false :: false :: false :: false :: false :: false :: false :: false :: false :: false :: false :: false :: false :: false :: false :: false :: false :: false :: false :: false :: false :: false :: false :: false :: false :: false :: false :: false :: false :: false :: false :: false :: false :: false :: false :: false :: false :: false :: false :: false :: false :: false :: false :: false :: false :: false :: false :: false :: false :: false :: false :: false :: false :: false :: false :: false :: false :: false :: false :: false :: false :: false :: false :: false :: false :: false :: false :: false :: false :: false :: false :: false :: false :: false :: false :: false :: false :: false :: false :: false :: false :: false :: false :: false :: false :: true :: true :: true :: []) ?hT10 ?hH10⟩
      case hT10 => first | (simp (disch := omega) only [hds, liveT, cleanAV, cleanCell, clean1, cleanBlk, reduceIte, Int.reduceSub, Int.reduceAdd, Int.reduceNeg, hc]; done) | rfl
      case hH10 => first | (simp (disch := omega) only [hds, liveT, cleanAV, cleanCell, clean1, cleanBlk, reduceIte, Int.reduceSub, Int.reduceAdd, Int.reduceNeg, hc]; done) | rfl
      · omega
      · omega
    · have hek : ∀ h : k < (osl Rw).length, (osl Rw)[k] = rawQ ((1 : Int) : Rat) := fun h => by rw [← rAt_in h, hat, if_pos hke, if_neg (by omega), hc]; rfl
      have hfq : FitsQ ((1 : Int) : Rat) 2 := fits_int (1) (by decide) (by decide)
      have hint := rint_C (1) (by decide) (by decide)
      have hcm := rcompare_C (rawQ ((1 : Int) : Rat)) (rawQ ((1 : Int) : Rat)) ((fits_rawQ hfq).mono (by decide)) ((fits_rawQ hfq).mono (by decide))
      rw [cmp_eq] at hcm
      generalize rawQ ((1 : Int) : Rat) = vq at *
      repeat (first | (with_reducible first | refine Way.imp ?_ | refine blk_o rfl ?_) | ((with_reducible refine WayR.imp (fun K hK => ?_)); simp (disch := first | omega | (simp only [dls]; omega)) only [std, reduceIte, reduceCtorEq, Int.reduceToNat, Nat.reduceAdd, Nat.reduceSub, Nat.reduceMul, Int.reduceAdd, Int.reduceSub, Int.reduceMul, Int.reduceNeg, fU, fR, hc, hRl, hek]; subst hK) | refine zcA (hint) rfl rfl rfl ?_ | refine zcA (hcm) rfl rfl rfl ?_)
      refine ⟨(k + 1), ?hI11, ?hM11, Fgt.head (Nat.zero_le 3) (false :: true :: false :: true :: false :: true :: true :: false :: false :: true :: false :: true :: true :: true :: false :: false :: false :: false :: false :: false :: false :: false :: false :: false :: false :: false :: false :: false :: false :: false :: false :: false :: false :: false :: false :: false :: false :: false :: false :: false :: false :: false :: false :: false :: false :: false :: false :: false :: false :: false :: false :: false :: false :: false :: false :: false :: false :: false :: false :: false :: false :: false :: false :: false :: false :: false :: false :: false :: false :: false :: false :: false :: false :: false :: false :: false :: false :: false :: false :: false :: false :: false :: false :: false :: false :: false :: false :: false :: false :: false :: false :: false :: false :: false :: false :: false :: false :: false :: false :: false :: false :: false :: false :: false :: false :: false :: false :: false :: true :: true :: true :: []) ?hT11 ?hH11⟩
      case hT11 => first | (simp (disch := omega) only [hds, liveT, cleanAV, cleanCell, clean1, cleanBlk, reduceIte, Int.reduceSub, Int.reduceAdd, Int.reduceNeg, hc]; done) | rfl
      case hH11 => first | (simp (disch := omega) only [hds, liveT, cleanAV, cleanCell, clean1, cleanBlk, reduceIte, Int.reduceSub, Int.reduceAdd, Int.reduceNeg, hc]; done) | rfl
      · omega
      · omega
    · have hek : ∀ h : k < (osl Rw).length, (osl Rw)[k] = rawQ ((-1 : Int) : Rat) := fun h => by rw [← rAt_in h, hat, if_pos hke, if_neg (by omega), hc]; rfl
      have hfq : FitsQ ((-1 : Int) : Rat) 2 := fits_int (-1) (by decide) (by decide)
      have hint := rint_C (-1) (by decide) (by decide)
      have hcm := rcompare_C (rawQ ((-1 : Int) : Rat)) (rawQ ((-1 : Int) : Rat)) ((fits_rawQ hfq).mono (by decide)) ((fits_rawQ hfq).mono (by decide))
      rw [cmp_eq] at hcm
      generalize rawQ ((-1 : Int) : Rat) = vq at *
      repeat (first | (with_reducible first | refine Way.imp ?_ | refine blk_o rfl ?_) | ((with_reducible refine WayR.imp (fun K hK => ?_)); simp (disch := first | omega | (simp only [dls]; omega)) only [std, reduceIte, reduceCtorEq, Int.reduceToNat, Nat.reduceAdd, Nat.reduceSub, Nat.reduceMul, Int.reduceAdd, Int.reduceSub, Int.reduceMul, Int.reduceNeg, fU, fR, hc, hRl, hek]; subst hK) | refine zcA (hint) rfl rfl rfl ?_ | refine zcA (hcm) rfl rfl rfl ?_)
      refine ⟨(k + 1), ?hI12, ?hM12, Fgt.head (Nat.zero_le 3) (false :: true :: false :: true :: false :: true :: true :: false :: false :: true :: false :: true :: true :: true :: false :: false :: false :: false :: false :: false :: false :: false :: false :: false :: false :: false :: false :: false :: false :: false :: false :: false :: false :: false :: false :: false :: false :: false :: false :: false :: false :: false :: false :: false :: false :: false :: false :: false :: false :: false :: false :: false :: false :: false :: false :: false :: false :: false :: false :: false :: false :: false :: false :: false :: false :: false :: false :: false :: false :: false :: false :: false :: false :: false :: false :: false :: false :: false :: false :: false :: false :: false :: false :: false :: false :: false :: false :: false :: false :: false :: false :: false :: false :: false :: false :: false :: false :: false :: false :: false :: false :: false :: false :: false :: false :: false :: false :: false :: true :: true :: true :: []) ?hT12 ?hH12⟩
      case hT12 => first | (simp (disch := omega) only [hds, liveT, cleanAV, cleanCell, clean1, cleanBlk, reduceIte, Int.reduceSub, Int.reduceAdd, Int.reduceNeg, hc]; done) | rfl
      case hH12 => first | (simp (disch := omega) only [hds, liveT, cleanAV, cleanCell, clean1, cleanBlk, reduceIte, Int.reduceSub, Int.reduceAdd, Int.reduceNeg, hc]; done) | rfl
      · omega
      · omega
  · have hek : ∀ h : k < (osl Rw).length, (osl Rw)[k] = rawQ ((0 : Int) : Rat) := fun h => by rw [← rAt_in h, hat, if_neg hke]; rfl
    rcases hc with hc | hc | hc
    · skip
      have hfq : FitsQ ((0 : Int) : Rat) 2 := fits_int (0) (by decide) (by decide)
      have hint := rint_C (0) (by decide) (by decide)
      have hcm := rcompare_C (rawQ ((0 : Int) : Rat)) (rawQ ((0 : Int) : Rat)) ((fits_rawQ hfq).mono (by decide)) ((fits_rawQ hfq).mono (by decide))
      rw [cmp_eq] at hcm
      generalize rawQ ((0 : Int) : Rat) = vq at *
      repeat (first | (with_reducible first | refine Way.imp ?_ | refine blk_o rfl ?_) | ((with_reducible refine WayR.imp (fun K hK => ?_)); simp (disch := first | omega | (simp only [dls]; omega)) only [std, reduceIte, reduceCtorEq, Int.reduceToNat, Nat.reduceAdd, Nat.reduceSub, Nat.reduceMul, Int.reduceAdd, Int.reduceSub, Int.reduceMul, Int.reduceNeg, fU, fR, hc, hRl, hek]; subst hK) | refine zcA (hint) rfl rfl rfl ?_ | refine zcA (hcm) rfl rfl rfl ?_)
      refine ⟨(k + 1), ?hI13, ?hM13, Fgt.head (Nat.zero_le 3) (false :: true :: false :: true :: false :: true :: true :: false :: false :: true :: false :: true :: true :: true :: false :: false :: false :: false :: false :: false :: false :: false :: false :: false :: false :: false :: false :: false :: false :: false :: false :: false :: false :: false :: false :: false :: false :: false :: false :: false :: false :: false :: false :: false :: false :: false :: false :: false :: false :: false :: false :: false :: false :: false :: false :: false :: false :: false :: false :: false :: false :: false :: false :: false :: false :: false :: false :: false :: false :: false :: false :: false :: false :: false :: false :: false :: false :: false :: false :: false :: false :: false :: false :: false :: false :: false :: false :: false :: false :: false :: false :: false :: false :: false :: false :: false :: false :: false :: false :: false :: false :: false :: false :: false :: false :: false :: false :: false :: true :: true :: true :: []) ?hT13 ?hH13⟩
      case hT13 => first | (simp (disch := omega) only [hds, liveT, cleanAV, cleanCell, clean1, cleanBlk, reduceIte, Int.reduceSub, Int.reduceAdd, Int.reduceNeg, hc]; done) | rfl
      case hH13 => first | (simp (disch := omega) only [hds, liveT, cleanAV, cleanCell, clean1, cleanBlk, reduceIte, Int.reduceSub, Int.reduceAdd, Int.reduceNeg, hc]; done) | rfl
      · omega
      · omega
    · skip
      have hfq : FitsQ ((0 : Int) : Rat) 2 := fits_int (0) (by decide) (by decide)
      have hint := rint_C (0) (by decide) (by decide)
      have hcm := rcompare_C (rawQ ((0 : Int) : Rat)) (rawQ ((0 : Int) : Rat)) ((fits_rawQ hfq).mono (by decide)) ((fits_rawQ hfq).mono (by decide))
      rw [cmp_eq] at hcm
      generalize rawQ ((0 : Int) : Rat) = vq at *
      repeat (first | (with_reducible first | refine Way.imp ?_ | refine blk_o rfl ?_) | ((with_reducible refine WayR.imp (fun K hK => ?_)); simp (disch := first | omega | (simp only [dls]; omega)) only [std, reduceIte, reduceCtorEq, Int.reduceToNat, Nat.reduceAdd, Nat.reduceSub, Nat.reduceMul, Int.reduceAdd, Int.reduceSub, Int.reduceMul, Int.reduceNeg, fU, fR, hc, hRl, hek]; subst hK) | refine zcA (hint) rfl rfl rfl ?_ | refine zcA (hcm) rfl rfl rfl ?_)
      refine ⟨(k + 1), ?hI14, ?hM14, Fgt.head (Nat.zero_le 3) (false :: true :: false :: true :: false :: true :: true :: false :: false :: true :: false :: true :: true :: true :: false :: false :: false :: false :: false :: false :: false :: false :: false :: false :: false :: false :: false :: false :: false :: false :: false :: false :: false :: false :: false :: false :: false :: false :: false :: false :: false :: false :: false :: false :: false :: false :: false :: false :: false :: false :: false :: false :: false :: false :: false :: false :: false :: false :: false :: false :: false :: false :: false :: false :: false :: false :: false :: false :: false :: false :: false :: false :: false :: false :: false :: false :: false :: false :: false :: false :: false :: false :: false :: false :: false :: false :: false :: false :: false :: false :: false :: false :: false :: false :: false :: false :: false :: false :: false :: false :: false :: false :: false :: false :: false :: false :: false :: false :: true :: true :: true :: []) ?hT14 ?hH14⟩
      case hT14 => first | (simp (disch := omega) only [hds, liveT, cleanAV, cleanCell, clean1, cleanBlk, reduceIte, Int.reduceSub, Int.reduceAdd, Int.reduceNeg, hc]; done) | rfl
      case hH14 => first | (simp (disch := omega) only [hds, liveT, cleanAV, cleanCell, clean1, cleanBlk, reduceIte, Int.reduceSub, Int.reduceAdd, Int.reduceNeg, hc]; done) | rfl
      · omega
      · omega
    · skip
      have hfq : FitsQ ((0 : Int) : Rat) 2 := fits_int (0) (by decide) (by decide)
      have hint := rint_C (0) (by decide) (by decide)
      have hcm := rcompare_C (rawQ ((0 : Int) : Rat)) (rawQ ((0 : Int) : Rat)) ((fits_rawQ hfq).mono (by decide)) ((fits_rawQ hfq).mono (by decide))
      rw [cmp_eq] at hcm
      generalize rawQ ((0 : Int) : Rat) = vq at *
      repeat (first | (with_reducible first | refine Way.imp ?_ | refine blk_o rfl ?_) | ((with_reducible refine WayR.imp (fun K hK => ?_)); simp (disch := first | omega | (simp only [dls]; omega)) only [std, reduceIte, reduceCtorEq, Int.reduceToNat, Nat.reduceAdd, Nat.reduceSub, Nat.reduceMul, Int.reduceAdd, Int.reduceSub, Int.reduceMul, Int.reduceNeg, fU, fR, hc, hRl, hek]; subst hK) | refine zcA (hint) rfl rfl rfl ?_ | refine zcA (hcm) rfl rfl rfl ?_)
      refine ⟨(k + 1), ?hI15, ?hM15, Fgt.head (Nat.zero_le 3) (false :: true :: false :: true :: false :: true :: true :: false :: false :: true :: false :: true :: true :: true :: false :: false :: false :: false :: false :: false :: false :: false :: false :: false :: false :: false :: false :: false :: false :: false :: false :: false :: false :: false :: false :: false :: false :: false :: false :: false :: false :: false :: false :: false :: false :: false :: false :: false :: false :: false :: false :: false :: false :: false :: false :: false :: false :: false :: false :: false :: false :: false :: false :: false :: false :: false :: false :: false :: false :: false :: false :: false :: false :: false :: false :: false :: false :: false :: false :: false :: false :: false :: false :: false :: false :: false :: false :: false :: false :: false :: false :: false :: false :: false :: false :: false :: false :: false :: false :: false :: false :: false :: false :: false :: false :: false :: false :: false :: true :: true :: true :: []) ?hT15 ?hH15⟩
      case hT15 => first | (simp (disch := omega) only [hds, liveT, cleanAV, cleanCell, clean1, cleanBlk, reduceIte, Int.reduceSub, Int.reduceAdd, Int.reduceNeg, hc]; done) | rfl
      case hH15 => first | (simp (disch := omega) only [hds, liveT, cleanAV, cleanCell, clean1, cleanBlk, reduceIte, Int.reduceSub, Int.reduceAdd, Int.reduceNeg, hc]; done) | rfl
      · omega
      · omega

end Go.Proofs.Ytdhkdnmefeeclaa
