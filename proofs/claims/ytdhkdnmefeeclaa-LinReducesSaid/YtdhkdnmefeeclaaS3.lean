/- The law LinReduces: the walk. -/
import Derived.Test.YtdhkdnmefeeclaaS2
set_option linter.unusedSimpArgs false
set_option linter.unusedVariables false
set_option linter.unnecessarySimpa false
set_option linter.unusedSimpArgs false
set_option linter.unusedVariables false
set_option maxRecDepth 100000
set_option maxHeartbeats 4000000
namespace Go.Proofs.Ytdhkdnmefeeclaa
open Go Go.Am Go.Proofs Go.RowKit Go.Off

theorem zero_of {a : VV} (he : ∀ k, k < (osl a).length → qAt a k = 0) : zeroQ a = true := by
  unfold zeroQ zeroTo
  rw [List.all_eq_true]
  intro k hk
  rw [List.mem_range] at hk
  rw [he k hk]
  simp
theorem qAt_take (r : List Rat) {p k : Nat} (h : k < p) : qAt (some ((r.map rawQ).take p)) k = r.getD k 0 := by
  unfold qAt rAt
  rw [osl_some, List.getD_eq_getElem?_getD, List.getD_eq_getElem?_getD, List.getElem?_take_of_lt h, List.getElem?_map]
  cases r[k]? with
  | none => exact zR_val
  | some q => exact rawQ_val q
theorem cmp_same (q : Rat) : cmpQ q q = 0 := by
  unfold cmpQ
  rw [if_neg (by grind), if_neg (by grind)]

abbrev c10_k1 : CC := (.seq (.reg [⟨(some 174), none, (.callf (.func 55) [])⟩, ⟨(some 2), none, (.mv (.tmp 174))⟩]) .ret)
abbrev c10_b1 : CC := (.seq (.reg [⟨(some 161), none, (.bin .lss (.tmp 160) (.tmp 159))⟩]) (.seq (.cond (.tmp 161) .skip (.exit 6)) (.seq (.block 7 (.seq (.reg [⟨(some 162), none, (.mv (.tmp 160))⟩, ⟨(some 16), none, (.mv (.tmp 162))⟩]) (.seq (.reg [⟨(some 163), none, (.mv (.tmp 6))⟩, ⟨(some 164), none, (.mv (.tmp 16))⟩, ⟨(some 165), none, (.iaddr 1 none (.tmp 163) (.tmp 164))⟩, ⟨(some 166), none, (.load 1 false (.tmp 165))⟩, ⟨(some 167), none, (.mv (.tmp 14))⟩, ⟨(some 168), none, (.mv (.tmp 16))⟩, ⟨(some 169), none, (.iaddr 1 none (.tmp 167) (.tmp 168))⟩, ⟨(some 170), none, (.load 1 false (.tmp 169))⟩, ⟨(some 171), none, (.callf (.func 51) [(.tmp 166), (.tmp 170)])⟩, ⟨(some 172), none, (.un .not (.tmp 171))⟩]) (.cond (.tmp 172) (.seq (.reg [⟨(some 2), none, (.mv (.const (.bool false)))⟩]) .ret) .skip)))) (.reg [⟨(some 173), none, (.bin .add (.tmp 160) (.const (.int .i64 (1))))⟩, ⟨(some 160), none, (.mv (.tmp 173))⟩]))))
abbrev c10_k2 : CC := (.seq (.reg [⟨(some 142), none, (.mv (.tmp 6))⟩, ⟨(some 143), none, (.callf (.func 56) [(.tmp 142)])⟩, ⟨(some 141), none, (.mv (.tmp 143))⟩, ⟨(some 144), none, (.ext (.tmp 141) 0)⟩, ⟨(some 145), none, (.ext (.tmp 141) 1)⟩, ⟨(some 14), none, (.mv (.tmp 144))⟩, ⟨(some 15), none, (.mv (.tmp 145))⟩]) (.seq (.seq (.reg [⟨(some 146), none, (.mv (.tmp 15))⟩, ⟨(some 147), none, (.len false (.tmp 146))⟩, ⟨(some 148), none, (.mv (.tmp 7))⟩, ⟨(some 149), none, (.len false (.tmp 148))⟩, ⟨(some 150), none, (.bin .neq (.tmp 147) (.tmp 149))⟩, ⟨(some 151), none, (.mv (.tmp 150))⟩, ⟨(some 152), (some (151, false)), (.mv (.tmp 14))⟩, ⟨(some 153), (some (151, false)), (.len false (.tmp 152))⟩, ⟨(some 154), (some (151, false)), (.mv (.tmp 6))⟩, ⟨(some 155), (some (151, false)), (.len false (.tmp 154))⟩, ⟨(some 156), (some (151, false)), (.bin .neq (.tmp 153) (.tmp 155))⟩, ⟨(some 157), none, (.pick (.tmp 151) (.const (.bool true)) (.tmp 156))⟩]) (.cond (.tmp 157) (.seq (.reg [⟨(some 2), none, (.mv (.const (.bool false)))⟩]) .ret) .skip)) (.seq (.seq (.reg [⟨(some 158), none, (.mv (.tmp 6))⟩, ⟨(some 159), none, (.len false (.tmp 158))⟩, ⟨(some 160), none, (.mv (.const (.int .i64 (0))))⟩]) (.block 6 (.loop c10_b1))) c10_k1)))
abbrev c10_k3 : CC := (.reg [⟨(some 140), none, (.bin .add (.tmp 85) (.const (.int .i64 (1))))⟩, ⟨(some 85), none, (.mv (.tmp 140))⟩])
abbrev c10_b2 : CC := (.seq (.reg [⟨(some 123), none, (.bin .lss (.tmp 122) (.tmp 121))⟩]) (.seq (.cond (.tmp 123) .skip (.exit 4)) (.seq (.block 5 (.seq (.reg [⟨(some 124), none, (.mv (.tmp 122))⟩, ⟨(some 12), none, (.mv (.tmp 124))⟩]) (.seq (.reg [⟨(some 13), none, (.mv (.const (.int .i64 (0))))⟩]) (.seq (.seq (.reg [⟨(some 125), none, (.mv (.tmp 12))⟩, ⟨(some 126), none, (.mv (.tmp 10))⟩, ⟨(some 127), none, (.bin .eql (.tmp 125) (.tmp 126))⟩]) (.cond (.tmp 127) (.reg [⟨(some 13), none, (.mv (.const (.int .i64 (1))))⟩]) .skip)) (.seq (.reg [⟨(some 128), none, (.mv (.tmp 6))⟩, ⟨(some 129), none, (.mv (.tmp 12))⟩, ⟨(some 130), none, (.iaddr 1 none (.tmp 128) (.tmp 129))⟩, ⟨(some 131), none, (.load 1 false (.tmp 130))⟩, ⟨(some 132), none, (.mv (.tmp 11))⟩, ⟨(some 133), none, (.iaddr 3 none (.tmp 131) (.tmp 132))⟩, ⟨(some 134), none, (.load 3 true (.tmp 133))⟩, ⟨(some 135), none, (.mv (.tmp 13))⟩, ⟨(some 136), none, (.callf (.func 59) [(.tmp 135)])⟩, ⟨(some 137), none, (.callf (.func 46) [(.tmp 134), (.tmp 136)])⟩, ⟨(some 138), none, (.bin .neq (.tmp 137) (.const (.int .i64 (0))))⟩]) (.cond (.tmp 138) (.seq (.reg [⟨(some 2), none, (.mv (.const (.bool false)))⟩]) .ret) .skip)))))) (.reg [⟨(some 139), none, (.bin .add (.tmp 122) (.const (.int .i64 (1))))⟩, ⟨(some 122), none, (.mv (.tmp 139))⟩]))))
abbrev c10_b3 : CC := (.seq (.reg [⟨(some 86), none, (.bin .lss (.tmp 85) (.tmp 84))⟩]) (.seq (.cond (.tmp 86) .skip (.exit 2)) (.seq (.block 3 (.seq (.reg [⟨(some 87), none, (.mv (.tmp 85))⟩, ⟨(some 88), none, (.iaddr 1 none (.tmp 83) (.tmp 85))⟩, ⟨(some 89), none, (.load 1 false (.tmp 88))⟩, ⟨(some 10), none, (.mv (.tmp 87))⟩, ⟨(some 11), none, (.mv (.tmp 89))⟩]) (.seq (.seq (.reg [⟨(some 90), none, (.mv (.tmp 11))⟩, ⟨(some 91), none, (.bin .lss (.tmp 90) (.const (.int .i64 (0))))⟩, ⟨(some 92), none, (.mv (.tmp 91))⟩, ⟨(some 93), (some (92, false)), (.mv (.tmp 11))⟩, ⟨(some 94), (some (92, false)), (.mv (.tmp 4))⟩, ⟨(some 95), (some (92, false)), (.bin .geq (.tmp 93) (.tmp 94))⟩, ⟨(some 96), none, (.pick (.tmp 92) (.const (.bool true)) (.tmp 95))⟩, ⟨(some 97), none, (.mv (.tmp 96))⟩, ⟨(some 98), (some (97, false)), (.mv (.tmp 10))⟩, ⟨(some 99), (some (97, false)), (.bin .gtr (.tmp 98) (.const (.int .i64 (0))))⟩, ⟨(some 100), (some (97, false)), (.mv (.tmp 99))⟩, ⟨(some 101), (some (100, true)), (.mv (.tmp 7))⟩, ⟨(some 102), (some (100, true)), (.mv (.tmp 10))⟩, ⟨(some 103), (some (100, true)), (.bin .sub (.tmp 102) (.const (.int .i64 (1))))⟩, ⟨(some 104), (some (100, true)), (.iaddr 1 none (.tmp 101) (.tmp 103))⟩, ⟨(some 105), (some (100, true)), (.load 1 false (.tmp 104))⟩, ⟨(some 106), (some (100, true)), (.mv (.tmp 11))⟩, ⟨(some 107), (some (100, true)), (.bin .geq (.tmp 105) (.tmp 106))⟩, ⟨(some 108), (some (97, false)), (.pick (.tmp 100) (.tmp 107) (.const (.bool false)))⟩, ⟨(some 109), none, (.pick (.tmp 97) (.const (.bool true)) (.tmp 108))⟩, ⟨(some 110), none, (.mv (.tmp 109))⟩, ⟨(some 111), (some (110, false)), (.mv (.tmp 6))⟩, ⟨(some 112), (some (110, false)), (.mv (.tmp 10))⟩, ⟨(some 113), (some (110, false)), (.iaddr 1 none (.tmp 111) (.tmp 112))⟩, ⟨(some 114), (some (110, false)), (.load 1 false (.tmp 113))⟩, ⟨(some 115), (some (110, false)), (.mv (.tmp 11))⟩, ⟨(some 116), (some (110, false)), (.slice 3 (.tmp 114) none (some (.tmp 115)) none)⟩, ⟨(some 117), (some (110, false)), (.callf (.func 52) [(.tmp 116)])⟩, ⟨(some 118), (some (110, false)), (.un .not (.tmp 117))⟩, ⟨(some 119), none, (.pick (.tmp 110) (.const (.bool true)) (.tmp 118))⟩]) (.cond (.tmp 119) (.seq (.reg [⟨(some 2), none, (.mv (.const (.bool false)))⟩]) .ret) .skip)) (.seq (.reg [⟨(some 120), none, (.mv (.tmp 6))⟩, ⟨(some 121), none, (.len false (.tmp 120))⟩, ⟨(some 122), none, (.mv (.const (.int .i64 (0))))⟩]) (.block 4 (.loop c10_b2)))))) c10_k3)))
abbrev c10_k4 : CC := (.seq (.seq (.reg [⟨(some 83), none, (.mv (.tmp 7))⟩, ⟨(some 84), none, (.len false (.tmp 83))⟩, ⟨(some 85), none, (.mv (.const (.int .i64 (0))))⟩]) (.block 2 (.loop c10_b3))) c10_k2)
abbrev c10_b4 : CC := (.seq (.reg [⟨(some 63), none, (.bin .lss (.tmp 62) (.tmp 61))⟩]) (.seq (.cond (.tmp 63) .skip (.exit 0)) (.seq (.block 1 (.seq (.reg [⟨(some 64), none, (.mv (.tmp 62))⟩, ⟨(some 65), none, (.iaddr 1 none (.tmp 60) (.tmp 62))⟩, ⟨(some 66), none, (.load 1 false (.tmp 65))⟩, ⟨(some 8), none, (.mv (.tmp 64))⟩, ⟨(some 9), none, (.mv (.tmp 66))⟩]) (.seq (.reg [⟨(some 67), none, (.mv (.tmp 9))⟩, ⟨(some 68), none, (.len false (.tmp 67))⟩, ⟨(some 69), none, (.mv (.tmp 4))⟩, ⟨(some 70), none, (.bin .neq (.tmp 68) (.tmp 69))⟩, ⟨(some 71), none, (.mv (.tmp 70))⟩, ⟨(some 72), (some (71, false)), (.mv (.tmp 8))⟩, ⟨(some 73), (some (71, false)), (.mv (.tmp 7))⟩, ⟨(some 74), (some (71, false)), (.len false (.tmp 73))⟩, ⟨(some 75), (some (71, false)), (.bin .geq (.tmp 72) (.tmp 74))⟩, ⟨(some 76), (some (71, false)), (.mv (.tmp 75))⟩, ⟨(some 77), (some (76, true)), (.mv (.tmp 9))⟩, ⟨(some 78), (some (76, true)), (.callf (.func 52) [(.tmp 77)])⟩, ⟨(some 79), (some (76, true)), (.un .not (.tmp 78))⟩, ⟨(some 80), (some (71, false)), (.pick (.tmp 76) (.tmp 79) (.const (.bool false)))⟩, ⟨(some 81), none, (.pick (.tmp 71) (.const (.bool true)) (.tmp 80))⟩]) (.cond (.tmp 81) (.seq (.reg [⟨(some 2), none, (.mv (.const (.bool false)))⟩]) .ret) .skip)))) (.reg [⟨(some 82), none, (.bin .add (.tmp 62) (.const (.int .i64 (1))))⟩, ⟨(some 62), none, (.mv (.tmp 82))⟩]))))
abbrev c10 : CC := (.seq (.reg [⟨(some 2), none, (.mv (.const (.bool false)))⟩]) (.seq (.seq (.reg [⟨(some 17), none, (.mv (.tmp 0))⟩, ⟨(some 18), none, (.callf (.func 54) [(.tmp 17)])⟩, ⟨(some 19), none, (.un .not (.tmp 18))⟩]) (.cond (.tmp 19) (.seq (.reg [⟨(some 20), none, (.callf (.func 55) [])⟩, ⟨(some 2), none, (.mv (.tmp 20))⟩]) .ret) .skip)) (.seq (.reg [⟨(some 22), none, (.mv (.tmp 0))⟩, ⟨(some 23), none, (.callf (.func 53) [(.tmp 22)])⟩, ⟨(some 21), none, (.mv (.tmp 23))⟩, ⟨(some 24), none, (.ext (.tmp 21) 0)⟩, ⟨(some 25), none, (.ext (.tmp 21) 1)⟩, ⟨(some 26), none, (.ext (.tmp 21) 2)⟩, ⟨(some 3), none, (.mv (.tmp 24))⟩, ⟨(some 4), none, (.mv (.tmp 25))⟩, ⟨(some 5), none, (.mv (.tmp 26))⟩]) (.seq (.reg [⟨(some 28), none, (.mv (.tmp 0))⟩, ⟨(some 29), none, (.callf (.func 56) [(.tmp 28)])⟩, ⟨(some 27), none, (.mv (.tmp 29))⟩, ⟨(some 30), none, (.ext (.tmp 27) 0)⟩, ⟨(some 31), none, (.ext (.tmp 27) 1)⟩, ⟨(some 6), none, (.mv (.tmp 30))⟩, ⟨(some 7), none, (.mv (.tmp 31))⟩]) (.seq (.seq (.reg [⟨(some 32), none, (.mv (.tmp 5))⟩, ⟨(some 33), none, (.un .not (.tmp 32))⟩]) (.cond (.tmp 33) (.seq (.reg [⟨(some 34), none, (.mv (.tmp 6))⟩, ⟨(some 35), none, (.len false (.tmp 34))⟩, ⟨(some 36), none, (.mv (.tmp 7))⟩, ⟨(some 37), none, (.len false (.tmp 36))⟩, ⟨(some 38), none, (.bin .add (.tmp 35) (.tmp 37))⟩, ⟨(some 39), none, (.bin .eql (.tmp 38) (.const (.int .i64 (0))))⟩, ⟨(some 40), none, (.mv (.tmp 39))⟩, ⟨(some 41), (some (40, true)), (.callf (.func 55) [])⟩, ⟨(some 42), none, (.pick (.tmp 40) (.tmp 41) (.const (.bool false)))⟩, ⟨(some 2), none, (.mv (.tmp 42))⟩]) .ret) .skip)) (.seq (.seq (.reg [⟨(some 43), none, (.mv (.tmp 6))⟩, ⟨(some 44), none, (.len false (.tmp 43))⟩, ⟨(some 45), none, (.mv (.tmp 3))⟩, ⟨(some 46), none, (.bin .neq (.tmp 44) (.tmp 45))⟩, ⟨(some 47), none, (.mv (.tmp 46))⟩, ⟨(some 48), (some (47, false)), (.mv (.tmp 7))⟩, ⟨(some 49), (some (47, false)), (.len false (.tmp 48))⟩, ⟨(some 50), (some (47, false)), (.mv (.tmp 3))⟩, ⟨(some 51), (some (47, false)), (.bin .gtr (.tmp 49) (.tmp 50))⟩, ⟨(some 52), none, (.pick (.tmp 47) (.const (.bool true)) (.tmp 51))⟩, ⟨(some 53), none, (.mv (.tmp 52))⟩, ⟨(some 54), (some (53, false)), (.mv (.tmp 0))⟩, ⟨(some 55), (some (53, false)), (.callf (.func 58) [(.tmp 54)])⟩, ⟨(some 56), (some (53, false)), (.mv (.tmp 7))⟩, ⟨(some 57), (some (53, false)), (.len false (.tmp 56))⟩, ⟨(some 58), (some (53, false)), (.bin .neq (.tmp 55) (.tmp 57))⟩, ⟨(some 59), none, (.pick (.tmp 53) (.const (.bool true)) (.tmp 58))⟩]) (.cond (.tmp 59) (.seq (.reg [⟨(some 2), none, (.mv (.const (.bool false)))⟩]) .ret) .skip)) (.seq (.seq (.reg [⟨(some 60), none, (.mv (.tmp 6))⟩, ⟨(some 61), none, (.len false (.tmp 60))⟩, ⟨(some 62), none, (.mv (.const (.int .i64 (0))))⟩]) (.block 0 (.loop c10_b4))) c10_k4)))))))
theorem cc10 : ccode Try.prog [] (Try.f10.body.getD .skip) = some c10 := by kernel_rfl
theorem body10 : Try.f10.body = some (Try.f10.body.getD .skip) := rfl

theorem linReduces_C (m : MM) (hl : (osl m).length ≤ 9223372036854775807) : PureC Try.prog 10 [aM m] (.ret (aB true)) := by
  have hs := lsides_C m hl
  have hf := lfew_C m
  have haw := awake6_C
  unfold lsidesV at hs
  by_cases c1 : fewM m = true
  case neg =>
    rw [show fewM m = false by simpa using c1] at hf
    refine pureC_of (rs := [(RV.tmp 2)]) Try.func10 (fun a w => Try.call10 a w) body10 cc10 (by kernel_rfl) ?_
    rw [Try.ntmps10]
    simp only [frs, Nat.reduceAdd, Nat.reduceSub]
    repeat (first | (with_reducible first | refine Way.imp ?_ | refine blk_o rfl ?_) | ((with_reducible refine WayR.imp (fun K hK => ?_)); simp (disch := first | omega | (simp only [dls]; omega)) only [std, reduceIte, reduceCtorEq, Int.reduceToNat, Nat.reduceAdd, Nat.reduceSub, Nat.reduceMul, Int.reduceAdd, Int.reduceSub, Int.reduceMul, Int.reduceNeg, fU]; subst hK) | refine zcA (hf) rfl rfl rfl ?_ | refine zcA (haw) rfl rfl rfl ?_)
    exact ⟨_, rfl, rfl⟩
  rw [c1] at hf
  have hmf := fewM_fits c1
  have hm1 := fewM_len c1
  by_cases c2 : rectTo m (osl m).length = true
  case neg =>
    rw [if_neg c2] at hs
    have hno : okM m = false := by
      cases h : okM m with
      | false => rfl
      | true => exact (c2 (ok_rect h)).elim
    have hred := reduce_no m (by omega) hno
    refine pureC_of (rs := [(RV.tmp 2)]) Try.func10 (fun a w => Try.call10 a w) body10 cc10 (by kernel_rfl) ?_
    rw [Try.ntmps10]
    simp only [frs, Nat.reduceAdd, Nat.reduceSub]
    repeat (first | (with_reducible first | refine Way.imp ?_ | refine blk_o rfl ?_) | ((with_reducible refine WayR.imp (fun K hK => ?_)); simp (disch := first | omega | (simp only [dls]; omega)) only [std, reduceIte, reduceCtorEq, Int.reduceToNat, Nat.reduceAdd, Nat.reduceSub, Nat.reduceMul, Int.reduceAdd, Int.reduceSub, Int.reduceMul, Int.reduceNeg, fU]; subst hK) | refine zcA (hf) rfl rfl rfl ?_ | refine zcA (hs) rfl rfl rfl ?_ | refine zcA (hred) rfl rfl rfl ?_ | refine zcA (haw) rfl rfl rfl ?_)
    exact ⟨_, rfl, rfl⟩
  rw [if_pos c2] at hs
  have hW8 := cols_le hmf
  have hred := reduce_few c1 c2
  have hwf := red_few c1 c2
  have hinv := red_inv (shp_qM c2) (cols m) (Nat.le_refl _)
  have hrk := rank_C m 8 3 hmf (by decide) (by decide) (by have := pow4_le hm1; omega)
  unfold rankQ at hrk
  rw [if_pos (ok_of hmf (by decide) c2)] at hrk
  have hN0 : (osl m).length = 0 → cols m = 0 := cols_zero
  generalize redTo (qM m) (cols m) = S at *
  generalize cols m = W at *
  obtain ⟨R, P⟩ := S
  dsimp only at hred hwf hinv hrk
  have hPN := hinv.le
  have hRl : (osl (rawM R)).length = (osl m).length := by rw [len_rawM, hwf.1]
  have hrr := rect_rawM hinv.shp
  have hcR : cols (rawM R) = W := by
    by_cases h0 : (osl m).length = 0
    · rw [hN0 h0]; exact cols_zero (by rw [hRl]; exact h0)
    · exact hrr.2 h0
  have hfR := fits_rawM (k := 8) hwf (by omega : (osl m).length ≤ 8) hW8
  have hred2 := reduce_C (rawM R) 8 1023 hfR (by decide) (by decide) (ok_of hfR (by decide) hrr.1) (by rw [hRl]; have := pow4_le hm1; omega)
  rw [hcR, qM_rawM, red_red hinv] at hred2
  have hPl := len_ints P
  have hPe := get_ints P
  have hRe : ∀ i (h : i < (osl (rawM R)).length), (osl (rawM R))[i] = rawV (R.getD i []) := fun i h => by rw [← mAt_in h, mAt_rawM (by rw [len_rawM] at h; exact h)]
  have hrow : ∀ i, i < (osl m).length → (osl (rawV (R.getD i []))).length = W ∧ FitsV (rawV (R.getD i [])) 8 1023 := fun i hi => by
    have := hwf.row hi
    exact ⟨by rw [osl_rawV, List.length_map]; exact this.1, fitsV_raw (by rw [this.1]; exact hW8) this.2⟩
  generalize hPs : rowO (intsN P) = Ps at *
  refine pureC_of (rs := [(RV.tmp 2)]) Try.func10 (fun a w => Try.call10 a w) body10 cc10 (by kernel_rfl) ?_
  rw [Try.ntmps10]
  simp only [frs, Nat.reduceAdd, Nat.reduceSub]
  repeat (first | (with_reducible first | refine Way.imp ?_ | refine blk_o rfl ?_) | ((with_reducible refine WayR.imp (fun K hK => ?_)); simp (disch := first | omega | (simp only [dls]; omega)) only [std, reduceIte, reduceCtorEq, Int.reduceToNat, Nat.reduceAdd, Nat.reduceSub, Nat.reduceMul, Int.reduceAdd, Int.reduceSub, Int.reduceMul, Int.reduceNeg, fU, hPl, hRl]; subst hK) | refine zcA (hf) rfl rfl rfl ?_ | refine zcA (hs) rfl rfl rfl ?_ | refine zcA (hred) rfl rfl rfl ?_ | refine zcA (hrk) rfl rfl rfl ?_)
  refine awp_loop (fun (zz : Nat) => ⟨(.junk :: .junk :: .junk :: .junk :: aI W :: .junk :: aM (rawM R) :: aIs Ps :: .junk :: .junk :: .junk :: .junk :: .junk :: .junk :: .junk :: .junk :: .junk :: .junk :: .junk :: .junk :: .junk :: .junk :: .junk :: .junk :: .junk :: .junk :: .junk :: .junk :: .junk :: .junk :: .junk :: .junk :: .junk :: .junk :: .junk :: .junk :: .junk :: .junk :: .junk :: .junk :: .junk :: .junk :: .junk :: .junk :: .junk :: .junk :: .junk :: .junk :: .junk :: .junk :: .junk :: .junk :: .junk :: .junk :: .junk :: .junk :: .junk :: .junk :: .junk :: .junk :: aM (rawM R) :: aI (osl m).length :: aI zz :: .junk :: .junk :: .junk :: .junk :: .junk :: .junk :: .junk :: .junk :: .junk :: .junk :: .junk :: .junk :: .junk :: .junk :: .junk :: .junk :: .junk :: .junk :: .junk :: .junk :: .junk :: .junk :: .junk :: .junk :: .junk :: .junk :: .junk :: .junk :: .junk :: .junk :: .junk :: .junk :: .junk :: .junk :: .junk :: .junk :: .junk :: .junk :: .junk :: .junk :: .junk :: .junk :: .junk :: .junk :: .junk :: .junk :: .junk :: .junk :: .junk :: .junk :: .junk :: .junk :: .junk :: .junk :: .junk :: .junk :: .junk :: .junk :: .junk :: .junk :: .junk :: .junk :: .junk :: .junk :: .junk :: .junk :: .junk :: .junk :: .junk :: .junk :: .junk :: .junk :: .junk :: .junk :: .junk :: .junk :: .junk :: .junk :: .junk :: .junk :: .junk :: .junk :: .junk :: .junk :: .junk :: .junk :: .junk :: .junk :: .junk :: .junk :: .junk :: .junk :: .junk :: .junk :: .junk :: .junk :: .junk :: .junk :: .junk :: .junk :: .junk :: .junk :: .junk :: .junk :: .junk :: .junk :: .junk :: .junk :: .junk :: .junk :: .junk :: .junk :: []), []⟩) (fun (zz : Nat) => zz ≤ (osl m).length) (fun (zz : Nat) => (osl m).length - zz) (0) ?hI1 (Fgt.head (Nat.le_refl _) (false :: false :: false :: false :: true :: false :: true :: true :: false :: false :: false :: false :: false :: false :: false :: false :: false :: false :: false :: false :: false :: false :: false :: false :: false :: false :: false :: false :: false :: false :: false :: false :: false :: false :: false :: false :: false :: false :: false :: false :: false :: false :: false :: false :: false :: false :: false :: false :: false :: false :: false :: false :: false :: false :: false :: false :: false :: false :: false :: false :: true :: true :: true :: []) ?hT1 ?hH1) ?hB1
  case hT1 => first | (simp (disch := omega) only [hds, liveT, cleanAV, cleanCell, clean1, cleanBlk, reduceIte, Int.reduceSub, Int.reduceAdd, Int.reduceNeg]; done) | rfl
  case hH1 => first | (simp (disch := omega) only [hds, liveT, cleanAV, cleanCell, clean1, cleanBlk, reduceIte, Int.reduceSub, Int.reduceAdd, Int.reduceNeg]; done) | rfl
  · exact Nat.zero_le _
  rintro i hi
  by_cases him : i = (osl m).length
  case neg =>
    have hlt : i < (osl m).length := by omega
    obtain ⟨hrl, hrf⟩ := hrow i hlt
    have hrei := hRe i (by omega)
    by_cases hip : i < P.length
    · generalize R.getD i [] = Ri at *
      repeat (first | (with_reducible first | refine Way.imp ?_ | refine blk_o rfl ?_) | ((with_reducible refine WayR.imp (fun K hK => ?_)); simp (disch := first | omega | (simp only [dls]; omega)) only [std, reduceIte, reduceCtorEq, Int.reduceToNat, Nat.reduceAdd, Nat.reduceSub, Nat.reduceMul, Int.reduceAdd, Int.reduceSub, Int.reduceMul, Int.reduceNeg, fU, fM, hPl, hRl, hrei, hrl]; subst hK))
      refine ⟨(i + 1), ?hI2, ?hM2, Fgt.head (Nat.le_refl _) (false :: false :: false :: false :: true :: false :: true :: true :: false :: false :: false :: false :: false :: false :: false :: false :: false :: false :: false :: false :: false :: false :: false :: false :: false :: false :: false :: false :: false :: false :: false :: false :: false :: false :: false :: false :: false :: false :: false :: false :: false :: false :: false :: false :: false :: false :: false :: false :: false :: false :: false :: false :: false :: false :: false :: false :: false :: false :: false :: false :: true :: true :: true :: []) ?hT2 ?hH2⟩
      case hT2 => first | (simp (disch := omega) only [hds, liveT, cleanAV, cleanCell, clean1, cleanBlk, reduceIte, Int.reduceSub, Int.reduceAdd, Int.reduceNeg]; done) | rfl
      case hH2 => first | (simp (disch := omega) only [hds, liveT, cleanAV, cleanCell, clean1, cleanBlk, reduceIte, Int.reduceSub, Int.reduceAdd, Int.reduceNeg]; done) | rfl
      · omega
      · omega
    · have hz := vzero_C (rawV (R.getD i [])) 8 1023 hrf (by decide) (by decide)
      rw [zero_of (fun k hk => by
        rw [hrl] at hk
        rw [← mAt_rawM (by rw [hwf.1]; exact hlt), qAt_rawM (by rw [hwf.1]; exact hlt)]
        exact hinv.nil i k (by omega) hlt hk)] at hz
      generalize R.getD i [] = Ri at *
      repeat (first | (with_reducible first | refine Way.imp ?_ | refine blk_o rfl ?_) | ((with_reducible refine WayR.imp (fun K hK => ?_)); simp (disch := first | omega | (simp only [dls]; omega)) only [std, reduceIte, reduceCtorEq, Int.reduceToNat, Nat.reduceAdd, Nat.reduceSub, Nat.reduceMul, Int.reduceAdd, Int.reduceSub, Int.reduceMul, Int.reduceNeg, fU, fM, hPl, hRl, hrei, hrl]; subst hK) | (apply call_any_g (hz) rfl; (case hg => simp (disch := first | omega | (simp only [dls]; omega)) only [std, reduceIte, reduceCtorEq, Int.reduceToNat, Nat.reduceAdd, Nat.reduceSub, Nat.reduceMul, Int.reduceAdd, Int.reduceSub, Int.reduceMul, Int.reduceNeg, fU, fM, hPl, hRl, hrei, hrl]); (case hcl => (simp only [evs, St.ev, constAV, evl]; (repeat (first | exact closeAVs_nil | (apply closeAVs_cons; (first | (refine close_own3 rfl (by decide)) | (refine close_ownO rfl (by decide) ?_; assumption) | rfl)))); done)); (case hu => rfl)))
      refine ⟨(i + 1), ?hI3, ?hM3, Fgt.head (Nat.le_refl _) (false :: false :: false :: false :: true :: false :: true :: true :: false :: false :: false :: false :: false :: false :: false :: false :: false :: false :: false :: false :: false :: false :: false :: false :: false :: false :: false :: false :: false :: false :: false :: false :: false :: false :: false :: false :: false :: false :: false :: false :: false :: false :: false :: false :: false :: false :: false :: false :: false :: false :: false :: false :: false :: false :: false :: false :: false :: false :: false :: false :: true :: true :: true :: []) ?hT3 ?hH3⟩
      case hT3 => first | (simp (disch := omega) only [hds, liveT, cleanAV, cleanCell, clean1, cleanBlk, reduceIte, Int.reduceSub, Int.reduceAdd, Int.reduceNeg]; done) | rfl
      case hH3 => first | (simp (disch := omega) only [hds, liveT, cleanAV, cleanCell, clean1, cleanBlk, reduceIte, Int.reduceSub, Int.reduceAdd, Int.reduceNeg]; done) | rfl
      · omega
      · omega
  repeat (first | (with_reducible first | refine Way.imp ?_ | refine blk_o rfl ?_) | ((with_reducible refine WayR.imp (fun K hK => ?_)); simp (disch := first | omega | (simp only [dls]; omega)) only [std, reduceIte, reduceCtorEq, Int.reduceToNat, Nat.reduceAdd, Nat.reduceSub, Nat.reduceMul, Int.reduceAdd, Int.reduceSub, Int.reduceMul, Int.reduceNeg, fU, hPl]; subst hK))
  refine awp_loop (fun (zz : Nat) => ⟨(.junk :: .junk :: .junk :: .junk :: aI W :: .junk :: aM (rawM R) :: aIs Ps :: .junk :: .junk :: .junk :: .junk :: .junk :: .junk :: .junk :: .junk :: .junk :: .junk :: .junk :: .junk :: .junk :: .junk :: .junk :: .junk :: .junk :: .junk :: .junk :: .junk :: .junk :: .junk :: .junk :: .junk :: .junk :: .junk :: .junk :: .junk :: .junk :: .junk :: .junk :: .junk :: .junk :: .junk :: .junk :: .junk :: .junk :: .junk :: .junk :: .junk :: .junk :: .junk :: .junk :: .junk :: .junk :: .junk :: .junk :: .junk :: .junk :: .junk :: .junk :: .junk :: .junk :: .junk :: .junk :: .junk :: .junk :: .junk :: .junk :: .junk :: .junk :: .junk :: .junk :: .junk :: .junk :: .junk :: .junk :: .junk :: .junk :: .junk :: .junk :: .junk :: .junk :: .junk :: .junk :: aIs Ps :: aI P.length :: aI zz :: .junk :: .junk :: .junk :: .junk :: .junk :: .junk :: .junk :: .junk :: .junk :: .junk :: .junk :: .junk :: .junk :: .junk :: .junk :: .junk :: .junk :: .junk :: .junk :: .junk :: .junk :: .junk :: .junk :: .junk :: .junk :: .junk :: .junk :: .junk :: .junk :: .junk :: .junk :: .junk :: .junk :: .junk :: .junk :: .junk :: .junk :: .junk :: .junk :: .junk :: .junk :: .junk :: .junk :: .junk :: .junk :: .junk :: .junk :: .junk :: .junk :: .junk :: .junk :: .junk :: .junk :: .junk :: .junk :: .junk :: .junk :: .junk :: .junk :: .junk :: .junk :: .junk :: .junk :: .junk :: .junk :: .junk :: .junk :: .junk :: .junk :: .junk :: .junk :: .junk :: .junk :: .junk :: .junk :: .junk :: .junk :: .junk :: .junk :: .junk :: .junk :: .junk :: .junk :: .junk :: .junk :: .junk :: .junk :: .junk :: .junk :: []), []⟩) (fun (zz : Nat) => zz ≤ P.length) (fun (zz : Nat) => P.length - zz) (0) ?hI4 (Fgt.head (Nat.le_refl _) (false :: false :: false :: false :: true :: false :: true :: true :: false :: false :: false :: false :: false :: false :: false :: false :: false :: false :: false :: false :: false :: false :: false :: false :: false :: false :: false :: false :: false :: false :: false :: false :: false :: false :: false :: false :: false :: false :: false :: false :: false :: false :: false :: false :: false :: false :: false :: false :: false :: false :: false :: false :: false :: false :: false :: false :: false :: false :: false :: false :: false :: false :: false :: false :: false :: false :: false :: false :: false :: false :: false :: false :: false :: false :: false :: false :: false :: false :: false :: false :: false :: false :: false :: true :: true :: true :: []) ?hT4 ?hH4) ?hB4
  case hT4 => first | (simp (disch := omega) only [hds, liveT, cleanAV, cleanCell, clean1, cleanBlk, reduceIte, Int.reduceSub, Int.reduceAdd, Int.reduceNeg]; done) | rfl
  case hH4 => first | (simp (disch := omega) only [hds, liveT, cleanAV, cleanCell, clean1, cleanBlk, reduceIte, Int.reduceSub, Int.reduceAdd, Int.reduceNeg]; done) | rfl
  · exact Nat.zero_le _
  rintro t ht
  by_cases htp : t = P.length
  case pos =>
    repeat (first | (with_reducible first | refine Way.imp ?_ | refine blk_o rfl ?_) | ((with_reducible refine WayR.imp (fun K hK => ?_)); simp (disch := first | omega | (simp only [dls]; omega)) only [std, reduceIte, reduceCtorEq, Int.reduceToNat, Nat.reduceAdd, Nat.reduceSub, Nat.reduceMul, Int.reduceAdd, Int.reduceSub, Int.reduceMul, Int.reduceNeg, fU, hPl, hRl]; subst hK) | refine zcA (hred2) rfl rfl rfl ?_)
    refine awp_loop (fun (zz : Nat) => ⟨(.junk :: .junk :: .junk :: .junk :: .junk :: .junk :: aM (rawM R) :: .junk :: .junk :: .junk :: .junk :: .junk :: .junk :: .junk :: aM (rawM R) :: .junk :: .junk :: .junk :: .junk :: .junk :: .junk :: .junk :: .junk :: .junk :: .junk :: .junk :: .junk :: .junk :: .junk :: .junk :: .junk :: .junk :: .junk :: .junk :: .junk :: .junk :: .junk :: .junk :: .junk :: .junk :: .junk :: .junk :: .junk :: .junk :: .junk :: .junk :: .junk :: .junk :: .junk :: .junk :: .junk :: .junk :: .junk :: .junk :: .junk :: .junk :: .junk :: .junk :: .junk :: .junk :: .junk :: .junk :: .junk :: .junk :: .junk :: .junk :: .junk :: .junk :: .junk :: .junk :: .junk :: .junk :: .junk :: .junk :: .junk :: .junk :: .junk :: .junk :: .junk :: .junk :: .junk :: .junk :: .junk :: .junk :: .junk :: .junk :: .junk :: .junk :: .junk :: .junk :: .junk :: .junk :: .junk :: .junk :: .junk :: .junk :: .junk :: .junk :: .junk :: .junk :: .junk :: .junk :: .junk :: .junk :: .junk :: .junk :: .junk :: .junk :: .junk :: .junk :: .junk :: .junk :: .junk :: .junk :: .junk :: .junk :: .junk :: .junk :: .junk :: .junk :: .junk :: .junk :: .junk :: .junk :: .junk :: .junk :: .junk :: .junk :: .junk :: .junk :: .junk :: .junk :: .junk :: .junk :: .junk :: .junk :: .junk :: .junk :: .junk :: .junk :: .junk :: .junk :: .junk :: .junk :: .junk :: .junk :: .junk :: .junk :: .junk :: .junk :: .junk :: .junk :: .junk :: .junk :: .junk :: .junk :: .junk :: .junk :: .junk :: aI (osl m).length :: aI zz :: .junk :: .junk :: .junk :: .junk :: .junk :: .junk :: .junk :: .junk :: .junk :: .junk :: .junk :: .junk :: .junk :: .junk :: []), []⟩) (fun (zz : Nat) => zz ≤ (osl m).length) (fun (zz : Nat) => (osl m).length - zz) (0) ?hI5 (Fgt.head (Nat.le_refl _) (false :: false :: false :: false :: false :: false :: true :: false :: false :: false :: false :: false :: false :: false :: true :: false :: false :: false :: false :: false :: false :: false :: false :: false :: false :: false :: false :: false :: false :: false :: false :: false :: false :: false :: false :: false :: false :: false :: false :: false :: false :: false :: false :: false :: false :: false :: false :: false :: false :: false :: false :: false :: false :: false :: false :: false :: false :: false :: false :: false :: false :: false :: false :: false :: false :: false :: false :: false :: false :: false :: false :: false :: false :: false :: false :: false :: false :: false :: false :: false :: false :: false :: false :: false :: false :: false :: false :: false :: false :: false :: false :: false :: false :: false :: false :: false :: false :: false :: false :: false :: false :: false :: false :: false :: false :: false :: false :: false :: false :: false :: false :: false :: false :: false :: false :: false :: false :: false :: false :: false :: false :: false :: false :: false :: false :: false :: false :: false :: false :: false :: false :: false :: false :: false :: false :: false :: false :: false :: false :: false :: false :: false :: false :: false :: false :: false :: false :: false :: false :: false :: false :: false :: false :: false :: false :: false :: false :: false :: false :: true :: true :: []) ?hT5 ?hH5) ?hB5
    case hT5 => first | (simp (disch := omega) only [hds, liveT, cleanAV, cleanCell, clean1, cleanBlk, reduceIte, Int.reduceSub, Int.reduceAdd, Int.reduceNeg]; done) | rfl
    case hH5 => first | (simp (disch := omega) only [hds, liveT, cleanAV, cleanCell, clean1, cleanBlk, reduceIte, Int.reduceSub, Int.reduceAdd, Int.reduceNeg]; done) | rfl
    · exact Nat.zero_le _
    rintro i hi
    by_cases him : i = (osl m).length
    · repeat (first | (with_reducible first | refine Way.imp ?_ | refine blk_o rfl ?_) | ((with_reducible refine WayR.imp (fun K hK => ?_)); simp (disch := first | omega | (simp only [dls]; omega)) only [std, reduceIte, reduceCtorEq, Int.reduceToNat, Nat.reduceAdd, Nat.reduceSub, Nat.reduceMul, Int.reduceAdd, Int.reduceSub, Int.reduceMul, Int.reduceNeg, fU]; subst hK) | refine zcA (haw) rfl rfl rfl ?_)
      exact ⟨_, rfl, rfl⟩
    · have hlt : i < (osl m).length := by omega
      obtain ⟨hrl, hrf⟩ := hrow i hlt
      have hrei := hRe i (by omega)
      have hsm := vsame_C (rawV (R.getD i [])) (rawV (R.getD i [])) 8 1023 hrf hrf (by decide) (by decide)
      rw [same_of rfl (fun k _ => rfl)] at hsm
      generalize R.getD i [] = Ri at *
      repeat (first | (with_reducible first | refine Way.imp ?_ | refine blk_o rfl ?_) | ((with_reducible refine WayR.imp (fun K hK => ?_)); simp (disch := first | omega | (simp only [dls]; omega)) only [std, reduceIte, reduceCtorEq, Int.reduceToNat, Nat.reduceAdd, Nat.reduceSub, Nat.reduceMul, Int.reduceAdd, Int.reduceSub, Int.reduceMul, Int.reduceNeg, fU, fM, hRl, hrei]; subst hK) | refine zcA (hsm) rfl rfl rfl ?_)
      refine ⟨(i + 1), ?hI6, ?hM6, Fgt.head (Nat.le_refl _) (false :: false :: false :: false :: false :: false :: true :: false :: false :: false :: false :: false :: false :: false :: true :: false :: false :: false :: false :: false :: false :: false :: false :: false :: false :: false :: false :: false :: false :: false :: false :: false :: false :: false :: false :: false :: false :: false :: false :: false :: false :: false :: false :: false :: false :: false :: false :: false :: false :: false :: false :: false :: false :: false :: false :: false :: false :: false :: false :: false :: false :: false :: false :: false :: false :: false :: false :: false :: false :: false :: false :: false :: false :: false :: false :: false :: false :: false :: false :: false :: false :: false :: false :: false :: false :: false :: false :: false :: false :: false :: false :: false :: false :: false :: false :: false :: false :: false :: false :: false :: false :: false :: false :: false :: false :: false :: false :: false :: false :: false :: false :: false :: false :: false :: false :: false :: false :: false :: false :: false :: false :: false :: false :: false :: false :: false :: false :: false :: false :: false :: false :: false :: false :: false :: false :: false :: false :: false :: false :: false :: false :: false :: false :: false :: false :: false :: false :: false :: false :: false :: false :: false :: false :: false :: false :: false :: false :: false :: false :: true :: true :: []) ?hT6 ?hH6⟩
      case hT6 => first | (simp (disch := omega) only [hds, liveT, cleanAV, cleanCell, clean1, cleanBlk, reduceIte, Int.reduceSub, Int.reduceAdd, Int.reduceNeg]; done) | rfl
      case hH6 => first | (simp (disch := omega) only [hds, liveT, cleanAV, cleanCell, clean1, cleanBlk, reduceIte, Int.reduceSub, Int.reduceAdd, Int.reduceNeg]; done) | rfl
      · omega
      · omega
  have htl : t < P.length := by omega
  have hp := hinv.lt t htl
  have htN : t < (osl m).length := by omega
  obtain ⟨hrl, hrf⟩ := hrow t htN
  have hret := hRe t (by omega)
  have hPet := hPe t (by rw [hPl]; exact htl)
  have hz := vzero_C (some (((R.getD t []).map rawQ).take (P.getD t 0))) 8 1023 ⟨by rw [osl_some, List.length_take]; have := hrf.1; rw [osl_rawV] at this; omega, fun r hr => hrf.2 r (List.mem_of_mem_take hr)⟩ (by decide) (by decide)
  rw [zero_of (fun k hk => by
    rw [osl_some, List.length_take] at hk
    have hk' : k < P.getD t 0 := by omega
    rw [qAt_take _ hk']
    exact hinv.lead t k htl hk')] at hz
  have hone := hinv.one t
  have hprev : 0 < t → P.getD (t - 1) 0 < P.getD t 0 := fun h => hinv.inc (t - 1) t (by omega) htl
  have hPep : ∀ (h : t - 1 < (osl Ps).length), (osl Ps)[t - 1] = ((P.getD (t - 1) 0 : Nat) : Int) := fun h => hPe (t - 1) h
  have hpi : ((t : Int) - 1).toNat = t - 1 := by omega
  have hR4 := hRe
  generalize hpp : P.getD t 0 = p at *
  generalize P.getD (t - 1) 0 = p' at *
  generalize hRt : R.getD t [] = Rt at *
  by_cases ht0 : t = 0
  · have ht0' : ¬ (0 < t) := by omega
    repeat (first | (with_reducible first | refine Way.imp ?_ | refine blk_o rfl ?_) | ((with_reducible refine WayR.imp (fun K hK => ?_)); simp (disch := first | omega | (simp only [dls]; omega)) only [std, reduceIte, reduceCtorEq, Int.reduceToNat, Nat.reduceAdd, Nat.reduceSub, Nat.reduceMul, Int.reduceAdd, Int.reduceSub, Int.reduceMul, Int.reduceNeg, fU, fM, fI, hPl, hPet, hRl, hret, hrl, osl_rawV]; subst hK) | (apply call_any_g (hz) rfl; (case hg => simp (disch := first | omega | (simp only [dls]; omega)) only [std, reduceIte, reduceCtorEq, Int.reduceToNat, Nat.reduceAdd, Nat.reduceSub, Nat.reduceMul, Int.reduceAdd, Int.reduceSub, Int.reduceMul, Int.reduceNeg, fU, fM, fI, hPl, hPet, hRl, hret, hrl, osl_rawV]); (case hcl => (simp only [evs, St.ev, constAV, evl]; (repeat (first | exact closeAVs_nil | (apply closeAVs_cons; (first | (refine close_own3 rfl (by decide)) | (refine close_ownO rfl (by decide) ?_; assumption) | rfl)))); done)); (case hu => rfl)))
    refine awp_loop (fun (zz : Nat) => ⟨(.junk :: .junk :: .junk :: .junk :: aI W :: .junk :: aM (rawM R) :: aIs Ps :: .junk :: .junk :: aI t :: aI p :: .junk :: .junk :: .junk :: .junk :: .junk :: .junk :: .junk :: .junk :: .junk :: .junk :: .junk :: .junk :: .junk :: .junk :: .junk :: .junk :: .junk :: .junk :: .junk :: .junk :: .junk :: .junk :: .junk :: .junk :: .junk :: .junk :: .junk :: .junk :: .junk :: .junk :: .junk :: .junk :: .junk :: .junk :: .junk :: .junk :: .junk :: .junk :: .junk :: .junk :: .junk :: .junk :: .junk :: .junk :: .junk :: .junk :: .junk :: .junk :: .junk :: .junk :: .junk :: .junk :: .junk :: .junk :: .junk :: .junk :: .junk :: .junk :: .junk :: .junk :: .junk :: .junk :: .junk :: .junk :: .junk :: .junk :: .junk :: .junk :: .junk :: .junk :: .junk :: aIs Ps :: aI P.length :: aI t :: .junk :: .junk :: .junk :: .junk :: .junk :: .junk :: .junk :: .junk :: .junk :: .junk :: .junk :: .junk :: .junk :: .junk :: .junk :: .junk :: .junk :: .junk :: .junk :: .junk :: .junk :: .junk :: .junk :: .junk :: .junk :: .junk :: .junk :: .junk :: .junk :: .junk :: .junk :: .junk :: .junk :: .junk :: .junk :: aI (osl m).length :: aI zz :: .junk :: .junk :: .junk :: .junk :: .junk :: .junk :: .junk :: .junk :: .junk :: .junk :: .junk :: .junk :: .junk :: .junk :: .junk :: .junk :: .junk :: .junk :: .junk :: .junk :: .junk :: .junk :: .junk :: .junk :: .junk :: .junk :: .junk :: .junk :: .junk :: .junk :: .junk :: .junk :: .junk :: .junk :: .junk :: .junk :: .junk :: .junk :: .junk :: .junk :: .junk :: .junk :: .junk :: .junk :: .junk :: .junk :: .junk :: .junk :: .junk :: .junk :: .junk :: .junk :: []), []⟩) (fun (zz : Nat) => zz ≤ (osl m).length) (fun (zz : Nat) => (osl m).length - zz) (0) ?hI7 (Fgt.head (Nat.le_refl _) (false :: false :: false :: false :: true :: false :: true :: true :: false :: false :: true :: true :: false :: false :: false :: false :: false :: false :: false :: false :: false :: false :: false :: false :: false :: false :: false :: false :: false :: false :: false :: false :: false :: false :: false :: false :: false :: false :: false :: false :: false :: false :: false :: false :: false :: false :: false :: false :: false :: false :: false :: false :: false :: false :: false :: false :: false :: false :: false :: false :: false :: false :: false :: false :: false :: false :: false :: false :: false :: false :: false :: false :: false :: false :: false :: false :: false :: false :: false :: false :: false :: false :: false :: true :: true :: true :: false :: false :: false :: false :: false :: false :: false :: false :: false :: false :: false :: false :: false :: false :: false :: false :: false :: false :: false :: false :: false :: false :: false :: false :: false :: false :: false :: false :: false :: false :: false :: false :: false :: false :: false :: true :: true :: []) ?hT7 ?hH7) ?hB7
    case hT7 => first | (simp (disch := omega) only [hds, liveT, cleanAV, cleanCell, clean1, cleanBlk, reduceIte, Int.reduceSub, Int.reduceAdd, Int.reduceNeg]; done) | rfl
    case hH7 => first | (simp (disch := omega) only [hds, liveT, cleanAV, cleanCell, clean1, cleanBlk, reduceIte, Int.reduceSub, Int.reduceAdd, Int.reduceNeg]; done) | rfl
    · exact Nat.zero_le _
    rintro j hj
    by_cases hjn : j = (osl m).length
    · repeat (first | (with_reducible first | refine Way.imp ?_ | refine blk_o rfl ?_) | ((with_reducible refine WayR.imp (fun K hK => ?_)); simp (disch := first | omega | (simp only [dls]; omega)) only [std, reduceIte, reduceCtorEq, Int.reduceToNat, Nat.reduceAdd, Nat.reduceSub, Nat.reduceMul, Int.reduceAdd, Int.reduceSub, Int.reduceMul, Int.reduceNeg, fU]; subst hK))
      refine ⟨(t + 1), ?hI8, ?hM8, Fgt.head (Nat.le_refl _) (false :: false :: false :: false :: true :: false :: true :: true :: false :: false :: false :: false :: false :: false :: false :: false :: false :: false :: false :: false :: false :: false :: false :: false :: false :: false :: false :: false :: false :: false :: false :: false :: false :: false :: false :: false :: false :: false :: false :: false :: false :: false :: false :: false :: false :: false :: false :: false :: false :: false :: false :: false :: false :: false :: false :: false :: false :: false :: false :: false :: false :: false :: false :: false :: false :: false :: false :: false :: false :: false :: false :: false :: false :: false :: false :: false :: false :: false :: false :: false :: false :: false :: false :: true :: true :: true :: []) ?hT8 ?hH8⟩
      case hT8 => first | (simp (disch := omega) only [hds, liveT, cleanAV, cleanCell, clean1, cleanBlk, reduceIte, Int.reduceSub, Int.reduceAdd, Int.reduceNeg]; done) | rfl
      case hH8 => first | (simp (disch := omega) only [hds, liveT, cleanAV, cleanCell, clean1, cleanBlk, reduceIte, Int.reduceSub, Int.reduceAdd, Int.reduceNeg]; done) | rfl
      · omega
      · omega
    · have hjlt : j < (osl m).length := by omega
      obtain ⟨hjl, hjf⟩ := hrow j hjlt
      have hrej := hR4 j (by omega)
      have hv := hone j htl hjlt
      have hfq := (hwf.at hjlt hp)
      have hej : ∀ h : p < (osl (rawV (R.getD j []))).length, (osl (rawV (R.getD j [])))[p] = rawQ (eQ R j p) := fun h => by
        rw [← rAt_in h]
        unfold rAt eQ
        rw [osl_rawV, List.getD_eq_getElem?_getD, List.getElem?_map, List.getD_eq_getElem?_getD (l := R.getD j [])]
        rw [osl_rawV, List.length_map] at h
        rw [List.getElem?_eq_getElem h]
        rfl
      by_cases hjt : j = t
      · rw [if_pos hjt] at hv
        rw [hv] at hej
        have hint := rint_C 1 (by omega) (by omega)
        have hcm := rcompare_C (rawQ 1) (rawQ ((1 : Int) : Rat)) (fits_rawQ (fitsQ_one _ (by decide))) (fits_rawQ (fitsQ_one _ (by decide)))
        rw [rawQ_val, rawQ_val, show (((1 : Int) : Rat)) = 1 from rfl, cmp_same] at hcm
        rw [show (((1 : Int) : Rat)) = 1 from rfl] at hint
        generalize R.getD j [] = Rj at *
        repeat (first | (with_reducible first | refine Way.imp ?_ | refine blk_o rfl ?_) | ((with_reducible refine WayR.imp (fun K hK => ?_)); simp (disch := first | omega | (simp only [dls]; omega)) only [std, reduceIte, reduceCtorEq, Int.reduceToNat, Nat.reduceAdd, Nat.reduceSub, Nat.reduceMul, Int.reduceAdd, Int.reduceSub, Int.reduceMul, Int.reduceNeg, fU, fM, fR, hRl, hrej, hjl, hej]; subst hK) | refine zcA (hint) rfl rfl rfl ?_ | refine zcA (hcm) rfl rfl rfl ?_)
        refine ⟨(j + 1), ?hI9, ?hM9, Fgt.head (Nat.le_refl _) (false :: false :: false :: false :: true :: false :: true :: true :: false :: false :: true :: true :: false :: false :: false :: false :: false :: false :: false :: false :: false :: false :: false :: false :: false :: false :: false :: false :: false :: false :: false :: false :: false :: false :: false :: false :: false :: false :: false :: false :: false :: false :: false :: false :: false :: false :: false :: false :: false :: false :: false :: false :: false :: false :: false :: false :: false :: false :: false :: false :: false :: false :: false :: false :: false :: false :: false :: false :: false :: false :: false :: false :: false :: false :: false :: false :: false :: false :: false :: false :: false :: false :: false :: true :: true :: true :: false :: false :: false :: false :: false :: false :: false :: false :: false :: false :: false :: false :: false :: false :: false :: false :: false :: false :: false :: false :: false :: false :: false :: false :: false :: false :: false :: false :: false :: false :: false :: false :: false :: false :: false :: true :: true :: []) ?hT9 ?hH9⟩
        case hT9 => first | (simp (disch := omega) only [hds, liveT, cleanAV, cleanCell, clean1, cleanBlk, reduceIte, Int.reduceSub, Int.reduceAdd, Int.reduceNeg]; done) | rfl
        case hH9 => first | (simp (disch := omega) only [hds, liveT, cleanAV, cleanCell, clean1, cleanBlk, reduceIte, Int.reduceSub, Int.reduceAdd, Int.reduceNeg]; done) | rfl
        · omega
        · omega
      · rw [if_neg hjt] at hv
        rw [hv] at hej
        have hint := rint_C 0 (by omega) (by omega)
        have hcm := rcompare_C (rawQ 0) (rawQ ((0 : Int) : Rat)) (fits_rawQ (fitsQ_zero _ (by decide))) (fits_rawQ (fitsQ_zero _ (by decide)))
        rw [rawQ_val, rawQ_val, show (((0 : Int) : Rat)) = 0 from rfl, cmp_same] at hcm
        rw [show (((0 : Int) : Rat)) = 0 from rfl] at hint
        generalize R.getD j [] = Rj at *
        repeat (first | (with_reducible first | refine Way.imp ?_ | refine blk_o rfl ?_) | ((with_reducible refine WayR.imp (fun K hK => ?_)); simp (disch := first | omega | (simp only [dls]; omega)) only [std, reduceIte, reduceCtorEq, Int.reduceToNat, Nat.reduceAdd, Nat.reduceSub, Nat.reduceMul, Int.reduceAdd, Int.reduceSub, Int.reduceMul, Int.reduceNeg, fU, fM, fR, hRl, hrej, hjl, hej]; subst hK) | refine zcA (hint) rfl rfl rfl ?_ | refine zcA (hcm) rfl rfl rfl ?_)
        refine ⟨(j + 1), ?hI10, ?hM10, Fgt.head (Nat.le_refl _) (false :: false :: false :: false :: true :: false :: true :: true :: false :: false :: true :: true :: false :: false :: false :: false :: false :: false :: false :: false :: false :: false :: false :: false :: false :: false :: false :: false :: false :: false :: false :: false :: false :: false :: false :: false :: false :: false :: false :: false :: false :: false :: false :: false :: false :: false :: false :: false :: false :: false :: false :: false :: false :: false :: false :: false :: false :: false :: false :: false :: false :: false :: false :: false :: false :: false :: false :: false :: false :: false :: false :: false :: false :: false :: false :: false :: false :: false :: false :: false :: false :: false :: false :: true :: true :: true :: false :: false :: false :: false :: false :: false :: false :: false :: false :: false :: false :: false :: false :: false :: false :: false :: false :: false :: false :: false :: false :: false :: false :: false :: false :: false :: false :: false :: false :: false :: false :: false :: false :: false :: false :: true :: true :: []) ?hT10 ?hH10⟩
        case hT10 => first | (simp (disch := omega) only [hds, liveT, cleanAV, cleanCell, clean1, cleanBlk, reduceIte, Int.reduceSub, Int.reduceAdd, Int.reduceNeg]; done) | rfl
        case hH10 => first | (simp (disch := omega) only [hds, liveT, cleanAV, cleanCell, clean1, cleanBlk, reduceIte, Int.reduceSub, Int.reduceAdd, Int.reduceNeg]; done) | rfl
        · omega
        · omega
  · have hpr := hprev (by omega)
    repeat (first | (with_reducible first | refine Way.imp ?_ | refine blk_o rfl ?_) | ((with_reducible refine WayR.imp (fun K hK => ?_)); simp (disch := first | omega | (simp only [dls]; omega)) only [std, reduceIte, reduceCtorEq, Int.reduceToNat, Nat.reduceAdd, Nat.reduceSub, Nat.reduceMul, Int.reduceAdd, Int.reduceSub, Int.reduceMul, Int.reduceNeg, fU, fM, fI, hPl, hPet, hPep, hpi, hRl, hret, hrl, osl_rawV]; subst hK) | (apply call_any_g (hz) rfl; (case hg => simp (disch := first | omega | (simp only [dls]; omega)) only [std, reduceIte, reduceCtorEq, Int.reduceToNat, Nat.reduceAdd, Nat.reduceSub, Nat.reduceMul, Int.reduceAdd, Int.reduceSub, Int.reduceMul, Int.reduceNeg, fU, fM, fI, hPl, hPet, hPep, hpi, hRl, hret, hrl, osl_rawV]); (case hcl => (simp only [evs, St.ev, constAV, evl]; (repeat (first | exact closeAVs_nil | (apply closeAVs_cons; (first | (refine close_own3 rfl (by decide)) | (refine close_ownO rfl (by decide) ?_; assumption) | rfl)))); done)); (case hu => rfl)))
    refine awp_loop (fun (zz : Nat) => ⟨(.junk :: .junk :: .junk :: .junk :: aI W :: .junk :: aM (rawM R) :: aIs Ps :: .junk :: .junk :: aI t :: aI p :: .junk :: .junk :: .junk :: .junk :: .junk :: .junk :: .junk :: .junk :: .junk :: .junk :: .junk :: .junk :: .junk :: .junk :: .junk :: .junk :: .junk :: .junk :: .junk :: .junk :: .junk :: .junk :: .junk :: .junk :: .junk :: .junk :: .junk :: .junk :: .junk :: .junk :: .junk :: .junk :: .junk :: .junk :: .junk :: .junk :: .junk :: .junk :: .junk :: .junk :: .junk :: .junk :: .junk :: .junk :: .junk :: .junk :: .junk :: .junk :: .junk :: .junk :: .junk :: .junk :: .junk :: .junk :: .junk :: .junk :: .junk :: .junk :: .junk :: .junk :: .junk :: .junk :: .junk :: .junk :: .junk :: .junk :: .junk :: .junk :: .junk :: .junk :: .junk :: aIs Ps :: aI P.length :: aI t :: .junk :: .junk :: .junk :: .junk :: .junk :: .junk :: .junk :: .junk :: .junk :: .junk :: .junk :: .junk :: .junk :: .junk :: .junk :: .junk :: .junk :: .junk :: .junk :: .junk :: .junk :: .junk :: .junk :: .junk :: .junk :: .junk :: .junk :: .junk :: .junk :: .junk :: .junk :: .junk :: .junk :: .junk :: .junk :: aI (osl m).length :: aI zz :: .junk :: .junk :: .junk :: .junk :: .junk :: .junk :: .junk :: .junk :: .junk :: .junk :: .junk :: .junk :: .junk :: .junk :: .junk :: .junk :: .junk :: .junk :: .junk :: .junk :: .junk :: .junk :: .junk :: .junk :: .junk :: .junk :: .junk :: .junk :: .junk :: .junk :: .junk :: .junk :: .junk :: .junk :: .junk :: .junk :: .junk :: .junk :: .junk :: .junk :: .junk :: .junk :: .junk :: .junk :: .junk :: .junk :: .junk :: .junk :: .junk :: .junk :: .junk :: .junk :: []), []⟩) (fun (zz : Nat) => zz ≤ (osl m).length) (fun (zz : Nat) => (osl m).length - zz) (0) ?hI11 (Fgt.head (Nat.le_refl _) (false :: false :: false :: false :: true :: false :: true :: true :: false :: false :: true :: true :: false :: false :: false :: false :: false :: false :: false :: false :: false :: false :: false :: false :: false :: false :: false :: false :: false :: false :: false :: false :: false :: false :: false :: false :: false :: false :: false :: false :: false :: false :: false :: false :: false :: false :: false :: false :: false :: false :: false :: false :: false :: false :: false :: false :: false :: false :: false :: false :: false :: false :: false :: false :: false :: false :: false :: false :: false :: false :: false :: false :: false :: false :: false :: false :: false :: false :: false :: false :: false :: false :: false :: true :: true :: true :: false :: false :: false :: false :: false :: false :: false :: false :: false :: false :: false :: false :: false :: false :: false :: false :: false :: false :: false :: false :: false :: false :: false :: false :: false :: false :: false :: false :: false :: false :: false :: false :: false :: false :: false :: true :: true :: []) ?hT11 ?hH11) ?hB11
    case hT11 => first | (simp (disch := omega) only [hds, liveT, cleanAV, cleanCell, clean1, cleanBlk, reduceIte, Int.reduceSub, Int.reduceAdd, Int.reduceNeg]; done) | rfl
    case hH11 => first | (simp (disch := omega) only [hds, liveT, cleanAV, cleanCell, clean1, cleanBlk, reduceIte, Int.reduceSub, Int.reduceAdd, Int.reduceNeg]; done) | rfl
    · exact Nat.zero_le _
    rintro j hj
    by_cases hjn : j = (osl m).length
    · repeat (first | (with_reducible first | refine Way.imp ?_ | refine blk_o rfl ?_) | ((with_reducible refine WayR.imp (fun K hK => ?_)); simp (disch := first | omega | (simp only [dls]; omega)) only [std, reduceIte, reduceCtorEq, Int.reduceToNat, Nat.reduceAdd, Nat.reduceSub, Nat.reduceMul, Int.reduceAdd, Int.reduceSub, Int.reduceMul, Int.reduceNeg, fU]; subst hK))
      refine ⟨(t + 1), ?hI12, ?hM12, Fgt.head (Nat.le_refl _) (false :: false :: false :: false :: true :: false :: true :: true :: false :: false :: false :: false :: false :: false :: false :: false :: false :: false :: false :: false :: false :: false :: false :: false :: false :: false :: false :: false :: false :: false :: false :: false :: false :: false :: false :: false :: false :: false :: false :: false :: false :: false :: false :: false :: false :: false :: false :: false :: false :: false :: false :: false :: false :: false :: false :: false :: false :: false :: false :: false :: false :: false :: false :: false :: false :: false :: false :: false :: false :: false :: false :: false :: false :: false :: false :: false :: false :: false :: false :: false :: false :: false :: false :: true :: true :: true :: []) ?hT12 ?hH12⟩
      case hT12 => first | (simp (disch := omega) only [hds, liveT, cleanAV, cleanCell, clean1, cleanBlk, reduceIte, Int.reduceSub, Int.reduceAdd, Int.reduceNeg]; done) | rfl
      case hH12 => first | (simp (disch := omega) only [hds, liveT, cleanAV, cleanCell, clean1, cleanBlk, reduceIte, Int.reduceSub, Int.reduceAdd, Int.reduceNeg]; done) | rfl
      · omega
      · omega
    · have hjlt : j < (osl m).length := by omega
      obtain ⟨hjl, hjf⟩ := hrow j hjlt
      have hrej := hR4 j (by omega)
      have hv := hone j htl hjlt
      have hfq := (hwf.at hjlt hp)
      have hej : ∀ h : p < (osl (rawV (R.getD j []))).length, (osl (rawV (R.getD j [])))[p] = rawQ (eQ R j p) := fun h => by
        rw [← rAt_in h]
        unfold rAt eQ
        rw [osl_rawV, List.getD_eq_getElem?_getD, List.getElem?_map, List.getD_eq_getElem?_getD (l := R.getD j [])]
        rw [osl_rawV, List.length_map] at h
        rw [List.getElem?_eq_getElem h]
        rfl
      by_cases hjt : j = t
      · rw [if_pos hjt] at hv
        rw [hv] at hej
        have hint := rint_C 1 (by omega) (by omega)
        have hcm := rcompare_C (rawQ 1) (rawQ ((1 : Int) : Rat)) (fits_rawQ (fitsQ_one _ (by decide))) (fits_rawQ (fitsQ_one _ (by decide)))
        rw [rawQ_val, rawQ_val, show (((1 : Int) : Rat)) = 1 from rfl, cmp_same] at hcm
        rw [show (((1 : Int) : Rat)) = 1 from rfl] at hint
        generalize R.getD j [] = Rj at *
        repeat (first | (with_reducible first | refine Way.imp ?_ | refine blk_o rfl ?_) | ((with_reducible refine WayR.imp (fun K hK => ?_)); simp (disch := first | omega | (simp only [dls]; omega)) only [std, reduceIte, reduceCtorEq, Int.reduceToNat, Nat.reduceAdd, Nat.reduceSub, Nat.reduceMul, Int.reduceAdd, Int.reduceSub, Int.reduceMul, Int.reduceNeg, fU, fM, fR, hRl, hrej, hjl, hej]; subst hK) | refine zcA (hint) rfl rfl rfl ?_ | refine zcA (hcm) rfl rfl rfl ?_)
        refine ⟨(j + 1), ?hI13, ?hM13, Fgt.head (Nat.le_refl _) (false :: false :: false :: false :: true :: false :: true :: true :: false :: false :: true :: true :: false :: false :: false :: false :: false :: false :: false :: false :: false :: false :: false :: false :: false :: false :: false :: false :: false :: false :: false :: false :: false :: false :: false :: false :: false :: false :: false :: false :: false :: false :: false :: false :: false :: false :: false :: false :: false :: false :: false :: false :: false :: false :: false :: false :: false :: false :: false :: false :: false :: false :: false :: false :: false :: false :: false :: false :: false :: false :: false :: false :: false :: false :: false :: false :: false :: false :: false :: false :: false :: false :: false :: true :: true :: true :: false :: false :: false :: false :: false :: false :: false :: false :: false :: false :: false :: false :: false :: false :: false :: false :: false :: false :: false :: false :: false :: false :: false :: false :: false :: false :: false :: false :: false :: false :: false :: false :: false :: false :: false :: true :: true :: []) ?hT13 ?hH13⟩
        case hT13 => first | (simp (disch := omega) only [hds, liveT, cleanAV, cleanCell, clean1, cleanBlk, reduceIte, Int.reduceSub, Int.reduceAdd, Int.reduceNeg]; done) | rfl
        case hH13 => first | (simp (disch := omega) only [hds, liveT, cleanAV, cleanCell, clean1, cleanBlk, reduceIte, Int.reduceSub, Int.reduceAdd, Int.reduceNeg]; done) | rfl
        · omega
        · omega
      · rw [if_neg hjt] at hv
        rw [hv] at hej
        have hint := rint_C 0 (by omega) (by omega)
        have hcm := rcompare_C (rawQ 0) (rawQ ((0 : Int) : Rat)) (fits_rawQ (fitsQ_zero _ (by decide))) (fits_rawQ (fitsQ_zero _ (by decide)))
        rw [rawQ_val, rawQ_val, show (((0 : Int) : Rat)) = 0 from rfl, cmp_same] at hcm
        rw [show (((0 : Int) : Rat)) = 0 from rfl] at hint
        generalize R.getD j [] = Rj at *
        repeat (first | (with_reducible first | refine Way.imp ?_ | refine blk_o rfl ?_) | ((with_reducible refine WayR.imp (fun K hK => ?_)); simp (disch := first | omega | (simp only [dls]; omega)) only [std, reduceIte, reduceCtorEq, Int.reduceToNat, Nat.reduceAdd, Nat.reduceSub, Nat.reduceMul, Int.reduceAdd, Int.reduceSub, Int.reduceMul, Int.reduceNeg, fU, fM, fR, hRl, hrej, hjl, hej]; subst hK) | refine zcA (hint) rfl rfl rfl ?_ | refine zcA (hcm) rfl rfl rfl ?_)
        refine ⟨(j + 1), ?hI14, ?hM14, Fgt.head (Nat.le_refl _) (false :: false :: false :: false :: true :: false :: true :: true :: false :: false :: true :: true :: false :: false :: false :: false :: false :: false :: false :: false :: false :: false :: false :: false :: false :: false :: false :: false :: false :: false :: false :: false :: false :: false :: false :: false :: false :: false :: false :: false :: false :: false :: false :: false :: false :: false :: false :: false :: false :: false :: false :: false :: false :: false :: false :: false :: false :: false :: false :: false :: false :: false :: false :: false :: false :: false :: false :: false :: false :: false :: false :: false :: false :: false :: false :: false :: false :: false :: false :: false :: false :: false :: false :: true :: true :: true :: false :: false :: false :: false :: false :: false :: false :: false :: false :: false :: false :: false :: false :: false :: false :: false :: false :: false :: false :: false :: false :: false :: false :: false :: false :: false :: false :: false :: false :: false :: false :: false :: false :: false :: false :: true :: true :: []) ?hT14 ?hH14⟩
        case hT14 => first | (simp (disch := omega) only [hds, liveT, cleanAV, cleanCell, clean1, cleanBlk, reduceIte, Int.reduceSub, Int.reduceAdd, Int.reduceNeg]; done) | rfl
        case hH14 => first | (simp (disch := omega) only [hds, liveT, cleanAV, cleanCell, clean1, cleanBlk, reduceIte, Int.reduceSub, Int.reduceAdd, Int.reduceNeg]; done) | rfl
        · omega
        · omega

end Go.Proofs.Ytdhkdnmefeeclaa
