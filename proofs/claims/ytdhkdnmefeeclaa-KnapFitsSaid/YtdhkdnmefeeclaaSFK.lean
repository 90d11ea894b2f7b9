/- The law KnapFits: the walk. -/
import Derived.Test.YtdhkdnmefeeclaaF2
import Derived.Test.YtdhkdnmefeeclaaJD
import Derived.Test.YtdhkdnmefeeclaaJE
set_option linter.unusedSimpArgs false
set_option linter.unusedVariables false
set_option linter.unnecessarySimpa false
set_option linter.unusedSimpArgs false
set_option linter.unusedVariables false
set_option maxRecDepth 100000
set_option maxHeartbeats 4000000
namespace Go.Proofs.Ytdhkdnmefeeclaa
open Go Go.Am Go.Proofs Go.RowKit Go.Off

def thou (t : Option (List Int)) (k : Nat) : Bool := decide (-1000 ≤ tkAt t k) && decide (tkAt t k ≤ 1000)
def is0 (s : ST) (t : Option (List Int)) : Bool := rightS s && decide ((osl t).length = (osl s.items).length)
def isK (s : ST) (t : Option (List Int)) (i : Nat) : Bool := is0 s t && allK (okT s t) i
theorem isK_succ (s : ST) (t : Option (List Int)) (i : Nat) : isK s t (i + 1) = (isK s t i && okT s t i) := by unfold isK; rw [allK_succ, Bool.and_assoc]
theorem isK_len {s : ST} {t : Option (List Int)} : isK s t (osl t).length = okW s t := by
  unfold isK is0 okW
  by_cases h : (osl t).length = (osl s.items).length
  · rw [h, Bool.and_assoc]
  · rw [decide_eq_false h, Bool.and_false, Bool.false_and, Bool.false_and, Bool.and_false]

abbrev c25_k1 : CC := (.seq (.reg [⟨(some 99), none, (.mv (.tmp 9))⟩, ⟨(some 100), none, (.mv (.tmp 99))⟩, ⟨(some 101), (some (100, true)), (.mv (.tmp 10))⟩, ⟨(some 102), (some (100, true)), (.faddr 0 (.tmp 3))⟩, ⟨(some 103), (some (100, true)), (.load 1 false (.tmp 102))⟩, ⟨(some 104), (some (100, true)), (.bin .leq (.tmp 101) (.tmp 103))⟩, ⟨(some 105), none, (.pick (.tmp 100) (.tmp 104) (.const (.bool false)))⟩, ⟨(some 9), none, (.mv (.tmp 105))⟩]) (.seq (.seq (.reg [⟨(some 106), none, (.mv (.tmp 9))⟩, ⟨(some 107), none, (.un .not (.tmp 106))⟩]) (.cond (.tmp 107) (.reg [⟨(some 10), none, (.mv (.const (.int .i64 (0))))⟩]) .skip)) (.seq (.reg [⟨(some 108), none, (.load 2 true (.tmp 3))⟩, ⟨(some 109), none, (.mv (.tmp 2))⟩, ⟨(some 110), none, (.callf (.func 86) [(.tmp 108), (.tmp 109)])⟩, ⟨(some 111), none, (.mv (.tmp 9))⟩, ⟨(some 112), none, (.beq false (.tmp 110) (.tmp 111))⟩, ⟨(some 113), none, (.mv (.tmp 112))⟩, ⟨(some 114), (some (113, true)), (.load 2 true (.tmp 3))⟩, ⟨(some 115), (some (113, true)), (.mv (.tmp 2))⟩, ⟨(some 116), (some (113, true)), (.callf (.func 89) [(.tmp 114), (.tmp 115)])⟩, ⟨(some 117), (some (113, true)), (.mv (.tmp 10))⟩, ⟨(some 118), (some (113, true)), (.bin .eql (.tmp 116) (.tmp 117))⟩, ⟨(some 119), none, (.pick (.tmp 113) (.tmp 118) (.const (.bool false)))⟩, ⟨(some 120), none, (.mv (.tmp 119))⟩, ⟨(some 121), (some (120, true)), (.mv (.tmp 1))⟩, ⟨(some 122), (some (120, true)), (.mv (.tmp 2))⟩, ⟨(some 123), (some (120, true)), (.callf (.func 87) [(.tmp 121), (.tmp 122)])⟩, ⟨(some 124), (some (120, true)), (.load 3 true (.tmp 11))⟩, ⟨(some 125), (some (120, true)), (.callf (.func 35) [(.tmp 124)])⟩, ⟨(some 126), (some (120, true)), (.callf (.func 32) [(.tmp 123), (.tmp 125)])⟩, ⟨(some 127), none, (.pick (.tmp 120) (.tmp 126) (.const (.bool false)))⟩, ⟨(some 128), none, (.mv (.tmp 127))⟩, ⟨(some 129), (some (128, true)), (.callf (.func 84) [])⟩, ⟨(some 130), none, (.pick (.tmp 128) (.tmp 129) (.const (.bool false)))⟩, ⟨(some 6), none, (.mv (.tmp 130))⟩]) .ret)))
abbrev c25_b1 : CC := (.seq (.reg [⟨(some 58), none, (.bin .lss (.tmp 57) (.tmp 56))⟩]) (.seq (.cond (.tmp 58) .skip (.exit 2)) (.seq (.block 3 (.seq (.reg [⟨(some 59), none, (.mv (.tmp 57))⟩, ⟨(some 60), none, (.iaddr 1 none (.tmp 55) (.tmp 57))⟩, ⟨(some 61), none, (.load 1 false (.tmp 60))⟩, ⟨(some 12), none, (.mv (.tmp 59))⟩, ⟨(some 13), none, (.mv (.tmp 61))⟩]) (.seq (.seq (.reg [⟨(some 62), none, (.mv (.tmp 9))⟩]) (.cond (.tmp 62) (.seq (.reg [⟨(some 63), none, (.faddr 1 (.tmp 3))⟩, ⟨(some 64), none, (.load 1 false (.tmp 63))⟩, ⟨(some 65), none, (.mv (.tmp 12))⟩, ⟨(some 66), none, (.iaddr 2 none (.tmp 64) (.tmp 65))⟩, ⟨(some 67), none, (.load 2 true (.tmp 66))⟩, ⟨(some 14), none, (.new 121 [(.int .i64 (0)), (.int .i64 (0))])⟩, ⟨none, none, (.store 2 (.tmp 14) (.tmp 67))⟩]) (.seq (.reg [⟨(some 68), none, (.mv (.tmp 13))⟩, ⟨(some 69), none, (.bin .geq (.tmp 68) (.const (.int .i64 (0))))⟩, ⟨(some 70), none, (.mv (.tmp 69))⟩, ⟨(some 71), (some (70, true)), (.mv (.tmp 13))⟩, ⟨(some 72), (some (70, true)), (.faddr 1 (.tmp 14))⟩, ⟨(some 73), (some (70, true)), (.load 1 false (.tmp 72))⟩, ⟨(some 74), (some (70, true)), (.bin .leq (.tmp 71) (.tmp 73))⟩, ⟨(some 75), none, (.pick (.tmp 70) (.tmp 74) (.const (.bool false)))⟩, ⟨(some 9), none, (.mv (.tmp 75))⟩]) (.reg [⟨(some 76), none, (.mv (.tmp 10))⟩, ⟨(some 77), none, (.mv (.tmp 13))⟩, ⟨(some 78), none, (.mm false (.tmp 77) (.const (.int .i64 (1000))))⟩, ⟨(some 79), none, (.mm true (.tmp 78) (.const (.int .i64 (0))))⟩, ⟨(some 80), none, (.faddr 0 (.tmp 14))⟩, ⟨(some 81), none, (.load 1 false (.tmp 80))⟩, ⟨(some 82), none, (.mm false (.tmp 81) (.const (.int .i64 (1048576))))⟩, ⟨(some 83), none, (.bin .mul (.tmp 79) (.tmp 82))⟩, ⟨(some 84), none, (.bin .add (.tmp 76) (.tmp 83))⟩, ⟨(some 10), none, (.mv (.tmp 84))⟩]))) .skip)) (.seq (.reg [⟨(some 85), none, (.mv (.tmp 12))⟩, ⟨(some 86), none, (.mv (.tmp 1))⟩, ⟨(some 87), none, (.len false (.tmp 86))⟩, ⟨(some 88), none, (.bin .lss (.tmp 85) (.tmp 87))⟩]) (.cond (.tmp 88) (.reg [⟨(some 89), none, (.load 3 true (.tmp 11))⟩, ⟨(some 90), none, (.mv (.tmp 1))⟩, ⟨(some 91), none, (.mv (.tmp 12))⟩, ⟨(some 92), none, (.iaddr 3 none (.tmp 90) (.tmp 91))⟩, ⟨(some 93), none, (.load 3 true (.tmp 92))⟩, ⟨(some 94), none, (.mv (.tmp 13))⟩, ⟨(some 95), none, (.callf (.func 59) [(.tmp 94)])⟩, ⟨(some 96), none, (.callf (.func 48) [(.tmp 93), (.tmp 95)])⟩, ⟨(some 97), none, (.callf (.func 47) [(.tmp 89), (.tmp 96)])⟩, ⟨none, none, (.store 3 (.tmp 11) (.tmp 97))⟩]) .skip))))) (.reg [⟨(some 98), none, (.bin .add (.tmp 57) (.const (.int .i64 (1))))⟩, ⟨(some 57), none, (.mv (.tmp 98))⟩]))))
abbrev c25_k2 : CC := (.seq (.reg [⟨(some 43), none, (.load 2 true (.tmp 3))⟩, ⟨(some 44), none, (.callf (.func 83) [(.tmp 43)])⟩, ⟨(some 45), none, (.callf (.func 82) [(.tmp 44)])⟩, ⟨(some 46), none, (.mv (.tmp 45))⟩, ⟨(some 47), (some (46, true)), (.mv (.tmp 2))⟩, ⟨(some 48), (some (46, true)), (.len false (.tmp 47))⟩, ⟨(some 49), (some (46, true)), (.faddr 1 (.tmp 3))⟩, ⟨(some 50), (some (46, true)), (.load 1 false (.tmp 49))⟩, ⟨(some 51), (some (46, true)), (.len false (.tmp 50))⟩, ⟨(some 52), (some (46, true)), (.bin .eql (.tmp 48) (.tmp 51))⟩, ⟨(some 53), none, (.pick (.tmp 46) (.tmp 52) (.const (.bool false)))⟩, ⟨(some 9), none, (.mv (.tmp 53))⟩]) (.seq (.reg [⟨(some 54), none, (.callf (.func 59) [(.const (.int .i64 (0)))])⟩, ⟨(some 11), none, (.new 40 [(.bool false), (.slice none 0 0), (.slice none 0 0)])⟩, ⟨(some 10), none, (.mv (.const (.int .i64 (0))))⟩, ⟨none, none, (.store 3 (.tmp 11) (.tmp 54))⟩]) (.seq (.seq (.reg [⟨(some 55), none, (.mv (.tmp 2))⟩, ⟨(some 56), none, (.len false (.tmp 55))⟩, ⟨(some 57), none, (.mv (.const (.int .i64 (0))))⟩]) (.block 2 (.loop c25_b1))) c25_k1)))
abbrev c25_b2 : CC := (.seq (.reg [⟨(some 32), none, (.bin .lss (.tmp 31) (.tmp 30))⟩]) (.seq (.cond (.tmp 32) .skip (.exit 0)) (.seq (.block 1 (.seq (.reg [⟨(some 33), none, (.iaddr 1 none (.tmp 29) (.tmp 31))⟩, ⟨(some 34), none, (.load 1 false (.tmp 33))⟩, ⟨(some 8), none, (.mv (.tmp 34))⟩]) (.seq (.reg [⟨(some 35), none, (.mv (.tmp 8))⟩, ⟨(some 36), none, (.bin .lss (.tmp 35) (.const (.int .i64 (-1000))))⟩, ⟨(some 37), none, (.mv (.tmp 36))⟩, ⟨(some 38), (some (37, false)), (.mv (.tmp 8))⟩, ⟨(some 39), (some (37, false)), (.bin .gtr (.tmp 38) (.const (.int .i64 (1000))))⟩, ⟨(some 40), none, (.pick (.tmp 37) (.const (.bool true)) (.tmp 39))⟩]) (.cond (.tmp 40) (.seq (.reg [⟨(some 41), none, (.callf (.func 84) [])⟩, ⟨(some 6), none, (.mv (.tmp 41))⟩]) .ret) .skip)))) (.reg [⟨(some 42), none, (.bin .add (.tmp 31) (.const (.int .i64 (1))))⟩, ⟨(some 31), none, (.mv (.tmp 42))⟩]))))
abbrev c25 : CC := (.seq (.reg [⟨(some 3), none, (.box 110 (.tmp 0))⟩, ⟨(some 6), none, (.mv (.const (.bool false)))⟩]) (.seq (.seq (.reg [⟨(some 15), none, (.load 2 true (.tmp 3))⟩, ⟨(some 16), none, (.callf (.func 81) [(.tmp 15)])⟩, ⟨(some 17), none, (.un .not (.tmp 16))⟩, ⟨(some 18), none, (.mv (.tmp 17))⟩, ⟨(some 19), (some (18, false)), (.mv (.tmp 1))⟩, ⟨(some 20), (some (18, false)), (.callf (.func 26) [(.tmp 19)])⟩, ⟨(some 21), (some (18, false)), (.un .not (.tmp 20))⟩, ⟨(some 22), none, (.pick (.tmp 18) (.const (.bool true)) (.tmp 21))⟩, ⟨(some 23), none, (.mv (.tmp 22))⟩, ⟨(some 24), (some (23, false)), (.mv (.tmp 2))⟩, ⟨(some 25), (some (23, false)), (.len false (.tmp 24))⟩, ⟨(some 26), (some (23, false)), (.bin .gtr (.tmp 25) (.const (.int .i64 (4))))⟩, ⟨(some 27), none, (.pick (.tmp 23) (.const (.bool true)) (.tmp 26))⟩]) (.cond (.tmp 27) (.seq (.reg [⟨(some 28), none, (.callf (.func 84) [])⟩, ⟨(some 6), none, (.mv (.tmp 28))⟩]) .ret) .skip)) (.seq (.seq (.reg [⟨(some 29), none, (.mv (.tmp 2))⟩, ⟨(some 30), none, (.len false (.tmp 29))⟩, ⟨(some 31), none, (.mv (.const (.int .i64 (0))))⟩]) (.block 0 (.loop c25_b2))) c25_k2)))
theorem cc25 : ccode Try.prog [] (Try.f25.body.getD .skip) = some c25 := by kernel_rfl
theorem body25 : Try.f25.body = some (Try.f25.body.getD .skip) := rfl

theorem knapFits_C (s : ST) (ws : VV) (t : Option (List Int)) (ht : (osl t).length ≤ 9223372036854775807 ∧ ∀ z ∈ osl t, -9223372036854775808 ≤ z ∧ z ≤ 9223372036854775807) : PureC Try.prog 25 [aSt s, aV ws, aTk t] (.ret (aB true)) := by
  obtain ⟨ht1, ht2⟩ := ht
  have hfs := fewS_C s
  have hfw := few_C ws
  have haw := awake16_C
  cases c1 : fewS s with
  | false =>
    rw [c1] at hfs
    refine pureC_of (rs := [(RV.tmp 6)]) Try.func25 (fun a w => Try.call25 a w) body25 cc25 (by kernel_rfl) ?_
    rw [Try.ntmps25]
    simp only [frs, Nat.reduceAdd, Nat.reduceSub]
    repeat (first | (with_reducible first | refine Way.imp ?_ | refine blk_o rfl ?_) | ((with_reducible refine WayR.imp (fun K hK => ?_)); simp (disch := first | omega | (simp only [dls]; omega)) only [std, reduceIte, reduceCtorEq, Int.reduceToNat, Nat.reduceAdd, Nat.reduceSub, Nat.reduceMul, Int.reduceAdd, Int.reduceSub, Int.reduceMul, Int.reduceNeg, fU]; subst hK) | refine zcA (hfs) rfl rfl rfl ?_ | refine zcA (haw) rfl rfl rfl ?_)
    exact ⟨_, rfl, rfl⟩
  | true =>
  rw [c1] at hfs
  cases c2 : fewB ws with
  | false =>
    rw [c2] at hfw
    refine pureC_of (rs := [(RV.tmp 6)]) Try.func25 (fun a w => Try.call25 a w) body25 cc25 (by kernel_rfl) ?_
    rw [Try.ntmps25]
    simp only [frs, Nat.reduceAdd, Nat.reduceSub]
    repeat (first | (with_reducible first | refine Way.imp ?_ | refine blk_o rfl ?_) | ((with_reducible refine WayR.imp (fun K hK => ?_)); simp (disch := first | omega | (simp only [dls]; omega)) only [std, reduceIte, reduceCtorEq, Int.reduceToNat, Nat.reduceAdd, Nat.reduceSub, Nat.reduceMul, Int.reduceAdd, Int.reduceSub, Int.reduceMul, Int.reduceNeg, fU]; subst hK) | refine zcA (hfs) rfl rfl rfl ?_ | (apply call_any_g (hfw) rfl; (case hg => simp (disch := first | omega | (simp only [dls]; omega)) only [std, reduceIte, reduceCtorEq, Int.reduceToNat, Nat.reduceAdd, Nat.reduceSub, Nat.reduceMul, Int.reduceAdd, Int.reduceSub, Int.reduceMul, Int.reduceNeg, fU]); (case hcl => (simp only [evs, St.ev, constAV, evl]; (repeat (first | exact closeAVs_nil | (apply closeAVs_cons; (first | (refine close_own3 rfl (by decide)) | (refine close_ownO rfl (by decide) ?_; assumption) | rfl)))); done)); (case hu => rfl)) | refine zcA (haw) rfl rfl rfl ?_)
    exact ⟨_, rfl, rfl⟩
  | true =>
  rw [c2] at hfw
  have fw := fewB_fits c2
  by_cases c3 : (osl t).length ≤ 4
  case neg =>
    refine pureC_of (rs := [(RV.tmp 6)]) Try.func25 (fun a w => Try.call25 a w) body25 cc25 (by kernel_rfl) ?_
    rw [Try.ntmps25]
    simp only [frs, Nat.reduceAdd, Nat.reduceSub]
    repeat (first | (with_reducible first | refine Way.imp ?_ | refine blk_o rfl ?_) | ((with_reducible refine WayR.imp (fun K hK => ?_)); simp (disch := first | omega | (simp only [dls]; omega)) only [std, reduceIte, reduceCtorEq, Int.reduceToNat, Nat.reduceAdd, Nat.reduceSub, Nat.reduceMul, Int.reduceAdd, Int.reduceSub, Int.reduceMul, Int.reduceNeg, fU]; subst hK) | refine zcA (hfs) rfl rfl rfl ?_ | (apply call_any_g (hfw) rfl; (case hg => simp (disch := first | omega | (simp only [dls]; omega)) only [std, reduceIte, reduceCtorEq, Int.reduceToNat, Nat.reduceAdd, Nat.reduceSub, Nat.reduceMul, Int.reduceAdd, Int.reduceSub, Int.reduceMul, Int.reduceNeg, fU]); (case hcl => (simp only [evs, St.ev, constAV, evl]; (repeat (first | exact closeAVs_nil | (apply closeAVs_cons; (first | (refine close_own3 rfl (by decide)) | (refine close_ownO rfl (by decide) ?_; assumption) | rfl)))); done)); (case hu => rfl)) | refine zcA (haw) rfl rfl rfl ?_)
    exact ⟨_, rfl, rfl⟩
  have h4 : (osl s.items).length ≤ 4 := by
    unfold fewS at c1
    simp only [Bool.and_eq_true, decide_eq_true_eq] at c1
    exact c1.2
  have hof := lof10_C s (by omega)
  have hri := right10_C s (by omega)
  have h0 := rint_C 0 (by omega) (by omega)
  change PureC _ _ _ (.ret (aR (rawQ 0))) at h0
  have hw8 := fw.1
  have hkf := kfits_C s t ht1
  have hku := kuse_C s t ht1
  have hwo := worth_C ws t 8 3 fw (by decide) (by decide) (by decide) ht2
  have fq : ∀ k, k ≤ 8 → FitsQ (worthTo ws t k) 100 := fun k hk => (fits_worth fw (by decide) ht2 k).mono (by omega)
  have flw := fq (min (osl ws).length (osl t).length) (by omega)
  have hlo := lof_C (rawQ (worthQ ws t)) (fits_rawQ (flw.mono (by decide)))
  have his := is_C (worthQ ws t) (worthQ ws t) (flw.mono (by decide))
  rw [rawQ_val] at hlo
  rw [decide_eq_true rfl] at his
  have hz : rawQ (worthTo ws t (min (osl ws).length 0)) = rawQ 0 := by rw [Nat.min_zero]; rfl
  generalize hD : dsOf s = D at hof hri
  clear hD
  refine pureC_of (rs := [(RV.tmp 6)]) Try.func25 (fun a w => Try.call25 a w) body25 cc25 (by kernel_rfl) ?_
  rw [Try.ntmps25]
  simp only [frs, Nat.reduceAdd, Nat.reduceSub]
  repeat (first | (with_reducible first | refine Way.imp ?_ | refine blk_o rfl ?_) | ((with_reducible refine WayR.imp (fun K hK => ?_)); simp (disch := first | omega | (simp only [dls]; omega)) only [std, reduceIte, reduceCtorEq, Int.reduceToNat, Nat.reduceAdd, Nat.reduceSub, Nat.reduceMul, Int.reduceAdd, Int.reduceSub, Int.reduceMul, Int.reduceNeg, fU]; subst hK) | refine zcA (hfs) rfl rfl rfl ?_ | (apply call_any_g (hfw) rfl; (case hg => simp (disch := first | omega | (simp only [dls]; omega)) only [std, reduceIte, reduceCtorEq, Int.reduceToNat, Nat.reduceAdd, Nat.reduceSub, Nat.reduceMul, Int.reduceAdd, Int.reduceSub, Int.reduceMul, Int.reduceNeg, fU]); (case hcl => (simp only [evs, St.ev, constAV, evl]; (repeat (first | exact closeAVs_nil | (apply closeAVs_cons; (first | (refine close_own3 rfl (by decide)) | (refine close_ownO rfl (by decide) ?_; assumption) | rfl)))); done)); (case hu => rfl)))
  refine awp_loop (fun (zz : Nat) => ⟨(.junk :: aV ws :: aTk t :: .one (.ptr 0 0 0 0) :: .junk :: .junk :: .junk :: .junk :: .junk :: .junk :: .junk :: .junk :: .junk :: .junk :: .junk :: .junk :: .junk :: .junk :: .junk :: .junk :: .junk :: .junk :: .junk :: .junk :: .junk :: .junk :: .junk :: .junk :: .junk :: aTk t :: aI (osl t).length :: aI zz :: .junk :: .junk :: .junk :: .junk :: .junk :: .junk :: .junk :: .junk :: .junk :: .junk :: .junk :: .junk :: .junk :: .junk :: .junk :: .junk :: .junk :: .junk :: .junk :: .junk :: .junk :: .junk :: .junk :: .junk :: .junk :: .junk :: .junk :: .junk :: .junk :: .junk :: .junk :: .junk :: .junk :: .junk :: .junk :: .junk :: .junk :: .junk :: .junk :: .junk :: .junk :: .junk :: .junk :: .junk :: .junk :: .junk :: .junk :: .junk :: .junk :: .junk :: .junk :: .junk :: .junk :: .junk :: .junk :: .junk :: .junk :: .junk :: .junk :: .junk :: .junk :: .junk :: .junk :: .junk :: .junk :: .junk :: .junk :: .junk :: .junk :: .junk :: .junk :: .junk :: .junk :: .junk :: .junk :: .junk :: .junk :: .junk :: .junk :: .junk :: .junk :: .junk :: .junk :: .junk :: .junk :: .junk :: .junk :: .junk :: .junk :: .junk :: .junk :: .junk :: .junk :: .junk :: .junk :: .junk :: .junk :: .junk :: .junk :: []), [⟨0, 110, 2, [[.c (.val (.int .i64 s.roll)), .c (encSl 2 fItm s.items)]], true, true⟩]⟩) (fun (zz : Nat) => zz ≤ (osl t).length ∧ allK (thou t) zz = true) (fun (zz : Nat) => (osl t).length - zz) (0) ?hI1 (Fgt.head (Nat.zero_le 1) (false :: true :: true :: true :: false :: false :: false :: false :: false :: false :: false :: false :: false :: false :: false :: false :: false :: false :: false :: false :: false :: false :: false :: false :: false :: false :: false :: false :: false :: true :: true :: true :: []) ?hT1 ?hH1) ?hB1
  case hT1 => first | (simp (disch := omega) only [hds, liveT, cleanAV, cleanCell, clean1, cleanBlk, reduceIte, Int.reduceSub, Int.reduceAdd, Int.reduceNeg]; done) | rfl
  case hH1 => first | (simp (disch := omega) only [hds, liveT, cleanAV, cleanCell, clean1, cleanBlk, reduceIte, Int.reduceSub, Int.reduceAdd, Int.reduceNeg]; done) | rfl
  · exact ⟨Nat.zero_le _, rfl⟩
  rintro i ⟨hi, hs⟩
  by_cases him : i = (osl t).length
  case neg =>
    have hlt : i < (osl t).length := by omega
    have hb : thou t i = (decide (-1000 ≤ (osl t)[i]) && decide ((osl t)[i] ≤ 1000)) := by unfold thou; rw [tkAt_in hlt]
    by_cases b1 : -1000 ≤ (osl t)[i]
    · by_cases b2 : (osl t)[i] ≤ 1000
      · rw [decide_eq_true b1, decide_eq_true b2] at hb
        repeat (first | (with_reducible first | refine Way.imp ?_ | refine blk_o rfl ?_) | ((with_reducible refine WayR.imp (fun K hK => ?_)); simp (disch := first | omega | (simp only [dls]; omega)) only [std, reduceIte, reduceCtorEq, Int.reduceToNat, Nat.reduceAdd, Nat.reduceSub, Nat.reduceMul, Int.reduceAdd, Int.reduceSub, Int.reduceMul, Int.reduceNeg, fU, fI]; subst hK))
        refine ⟨(i + 1), ?hI2, ?hM2, Fgt.head (Nat.zero_le 1) (false :: true :: true :: true :: false :: false :: false :: false :: false :: false :: false :: false :: false :: false :: false :: false :: false :: false :: false :: false :: false :: false :: false :: false :: false :: false :: false :: false :: false :: true :: true :: true :: []) ?hT2 ?hH2⟩
        case hT2 => first | (simp (disch := omega) only [hds, liveT, cleanAV, cleanCell, clean1, cleanBlk, reduceIte, Int.reduceSub, Int.reduceAdd, Int.reduceNeg]; done) | rfl
        case hH2 => first | (simp (disch := omega) only [hds, liveT, cleanAV, cleanCell, clean1, cleanBlk, reduceIte, Int.reduceSub, Int.reduceAdd, Int.reduceNeg]; done) | rfl
        · exact ⟨hlt, by rw [allK_succ, hs, hb]; rfl⟩
        · show (osl t).length - (i + 1) < (osl t).length - i; omega
      · repeat (first | (with_reducible first | refine Way.imp ?_ | refine blk_o rfl ?_) | ((with_reducible refine WayR.imp (fun K hK => ?_)); simp (disch := first | omega | (simp only [dls]; omega)) only [std, reduceIte, reduceCtorEq, Int.reduceToNat, Nat.reduceAdd, Nat.reduceSub, Nat.reduceMul, Int.reduceAdd, Int.reduceSub, Int.reduceMul, Int.reduceNeg, fU, fI]; subst hK) | refine zcA (haw) rfl rfl rfl ?_)
        exact ⟨_, rfl, rfl⟩
    · repeat (first | (with_reducible first | refine Way.imp ?_ | refine blk_o rfl ?_) | ((with_reducible refine WayR.imp (fun K hK => ?_)); simp (disch := first | omega | (simp only [dls]; omega)) only [std, reduceIte, reduceCtorEq, Int.reduceToNat, Nat.reduceAdd, Nat.reduceSub, Nat.reduceMul, Int.reduceAdd, Int.reduceSub, Int.reduceMul, Int.reduceNeg, fU, fI]; subst hK) | refine zcA (haw) rfl rfl rfl ?_)
      exact ⟨_, rfl, rfl⟩
  rw [him] at hs
  have hth : ∀ k (h : k < (osl t).length), -1000 ≤ (osl t)[k] ∧ (osl t)[k] ≤ 1000 := fun k h => by
    have := allK_at hs h
    unfold thou at this
    rw [tkAt_in h] at this
    simpa using this
  have hi00 : isK s t 0 = is0 s t := by unfold isK; exact Bool.and_true _
  have hw00 : wideTo s t 0 = 0 := rfl
  have hi0 : (if rightS s = true then decide ((osl t).length = (osl s.items).length) else false) = is0 s t := by unfold is0; cases rightS s <;> rfl
  obtain ⟨z0, hz0⟩ : ∃ z, z = is0 s t := ⟨_, rfl⟩
  have hz1 : z0 = true → (osl t).length = (osl s.items).length := fun h => by
    rw [hz0] at h; unfold is0 at h; simp only [Bool.and_eq_true, decide_eq_true_eq] at h; exact h.2
  have hz2 : z0 = true → rightS s = true := fun h => by
    rw [hz0] at h; unfold is0 at h; simp only [Bool.and_eq_true] at h; exact h.1
  have hcase : (rightS s = true ∧ ((osl t).length = (osl s.items).length ∧ is0 s t = true ∨ ¬ (osl t).length = (osl s.items).length ∧ is0 s t = false)) ∨ (rightS s = false ∧ is0 s t = false) := by
    unfold is0
    cases rightS s with
    | false => exact .inr ⟨rfl, rfl⟩
    | true =>
      by_cases h : (osl t).length = (osl s.items).length
      · exact .inl ⟨rfl, .inl ⟨h, by rw [decide_eq_true h]; rfl⟩⟩
      · exact .inl ⟨rfl, .inr ⟨h, by rw [decide_eq_false h]; rfl⟩⟩
  have hstep : ∀ i (hlt : i < (osl t).length) (hlw : i < (osl ws).length), PureC Try.prog 59 [aI (osl t)[i]] (.ret (aR (rawQ ((osl t)[i] : Rat)))) ∧ PureC Try.prog 48 [aR (osl ws)[i], aR (rawQ ((osl t)[i] : Rat))] (.ret (aR (rawQ ((osl ws)[i].val * ((osl t)[i] : Rat))))) ∧
      PureC Try.prog 47 [aR (rawQ (worthTo ws t (min (osl ws).length i))), aR (rawQ ((osl ws)[i].val * ((osl t)[i] : Rat)))] (.ret (aR (rawQ (worthTo ws t (min (osl ws).length (i + 1)))))) := fun i hlt hlw => by
    have hb := ht2 _ (List.getElem_mem hlt)
    have hti := rint_C (osl t)[i] hb.1 hb.2
    have hra : rAt ws i = (osl ws)[i] := rAt_in hlw
    have hfw := fw.at i
    rw [hra] at hfw
    have hfi := fits_int (osl t)[i] hb.1 hb.2
    have hmu := rmul_C (osl ws)[i] (rawQ ((osl t)[i] : Rat)) (hfw.mono (by omega)) (fits_rawQ (hfi.mono (by omega)))
    have hfs := fq i (by omega)
    have hfm := (hfw.val (by decide)).mul hfi
    have had := radd_C (rawQ (worthTo ws t i)) (rawQ ((osl ws)[i].val * ((osl t)[i] : Rat))) (fits_rawQ (hfs.mono (by omega))) (fits_rawQ (hfm.mono (by omega)))
    rw [rawQ_val] at hmu
    rw [rawQ_val, rawQ_val] at had
    have hst : worthTo ws t (i + 1) = worthTo ws t i + (osl ws)[i].val * ((osl t)[i] : Rat) := by
      show worthTo ws t i + qAt ws i * (tkAt t i : Rat) = _
      rw [tkAt_in hlt]
      unfold qAt
      rw [hra]
    rw [show min (osl ws).length i = i by omega, show min (osl ws).length (i + 1) = i + 1 by omega, hst]
    exact ⟨hti, hmu, had⟩
  rcases hcase with ⟨r1, ⟨r2, r3⟩ | ⟨r2, r3⟩⟩ | ⟨r1, r3⟩
  rotate_left
  · rw [r1] at hri
    repeat (first | (with_reducible first | refine Way.imp ?_ | refine blk_o rfl ?_) | ((with_reducible refine WayR.imp (fun K hK => ?_)); simp (disch := first | omega | (simp only [dls]; omega)) only [std, reduceIte, reduceCtorEq, Int.reduceToNat, Nat.reduceAdd, Nat.reduceSub, Nat.reduceMul, Int.reduceAdd, Int.reduceSub, Int.reduceMul, Int.reduceNeg, fU]; subst hK) | refine zcA (hof) rfl rfl rfl ?_ | refine zcA (hri) rfl rfl rfl ?_ | refine zcA (h0) rfl rfl rfl ?_)
    refine awp_loop (fun (zz : Nat) => ⟨(.junk :: aV ws :: aTk t :: .one (.ptr 0 0 0 0) :: .junk :: .junk :: .junk :: .junk :: .junk :: aB false :: aI 0 :: .one (.ptr 1 0 0 0) :: .junk :: .junk :: .junk :: .junk :: .junk :: .junk :: .junk :: .junk :: .junk :: .junk :: .junk :: .junk :: .junk :: .junk :: .junk :: .junk :: .junk :: .junk :: .junk :: .junk :: .junk :: .junk :: .junk :: .junk :: .junk :: .junk :: .junk :: .junk :: .junk :: .junk :: .junk :: .junk :: .junk :: .junk :: .junk :: .junk :: .junk :: .junk :: .junk :: .junk :: .junk :: .junk :: .junk :: aTk t :: aI (osl t).length :: aI zz :: .junk :: .junk :: .junk :: .junk :: .junk :: .junk :: .junk :: .junk :: .junk :: .junk :: .junk :: .junk :: .junk :: .junk :: .junk :: .junk :: .junk :: .junk :: .junk :: .junk :: .junk :: .junk :: .junk :: .junk :: .junk :: .junk :: .junk :: .junk :: .junk :: .junk :: .junk :: .junk :: .junk :: .junk :: .junk :: .junk :: .junk :: .junk :: .junk :: .junk :: .junk :: .junk :: .junk :: .junk :: .junk :: .junk :: .junk :: .junk :: .junk :: .junk :: .junk :: .junk :: .junk :: .junk :: .junk :: .junk :: .junk :: .junk :: .junk :: .junk :: .junk :: .junk :: .junk :: .junk :: .junk :: .junk :: .junk :: .junk :: .junk :: .junk :: .junk :: .junk :: .junk :: []), [⟨0, 110, 2, [[.c (.val (.int .i64 s.roll)), .c (encSl 2 fItm s.items)]], true, true⟩, ⟨0, 40, 3, [[.c (.val (.bool (rawQ (worthTo ws t (min (osl ws).length zz))).minus)), .c (nr (rawQ (worthTo ws t (min (osl ws).length zz))).size), .c (nr (rawQ (worthTo ws t (min (osl ws).length zz))).den)]], true, true⟩]⟩) (fun (zz : Nat) => zz ≤ (osl t).length) (fun (zz : Nat) => (osl t).length - zz) (0) ?hI3 (Fgt.head (Nat.zero_le 2) (false :: true :: true :: true :: false :: false :: false :: false :: false :: true :: true :: true :: false :: false :: false :: false :: false :: false :: false :: false :: false :: false :: false :: false :: false :: false :: false :: false :: false :: false :: false :: false :: false :: false :: false :: false :: false :: false :: false :: false :: false :: false :: false :: false :: false :: false :: false :: false :: false :: false :: false :: false :: false :: false :: false :: true :: true :: true :: []) ?hT3 ?hH3) ?hB3
    case hT3 => first | (simp (disch := omega) only [hds, liveT, cleanAV, cleanCell, clean1, cleanBlk, reduceIte, Int.reduceSub, Int.reduceAdd, Int.reduceNeg, hz]; done) | rfl
    case hH3 => first | (simp (disch := omega) only [hds, liveT, cleanAV, cleanCell, clean1, cleanBlk, reduceIte, Int.reduceSub, Int.reduceAdd, Int.reduceNeg, hz]; done) | rfl
    · exact Nat.zero_le _
    rintro i hi
    by_cases hie : i = (osl t).length
    · rw [hie]
      change PureC _ _ [aR (rawQ (worthTo ws t (min (osl ws).length (osl t).length)))] _ at hlo
      change PureC _ _ _ (.ret (aR (rawQ (worthTo ws t (min (osl ws).length (osl t).length))))) at hwo
      change PureC _ _ [aR (rawQ (worthTo ws t (min (osl ws).length (osl t).length))), _] _ at his
      have hok : okW s t = false := by rw [← isK_len]; unfold isK; rw [r3]; rfl
      have hff : fitsT s t = false := by unfold fitsT; rw [hok]; rfl
      have hfu : useT s t = 0 := by unfold useT; rw [hff]; rfl
      rw [hff] at hkf
      rw [hfu] at hku
      generalize rawQ (worthTo ws t (min (osl ws).length (osl t).length)) = qq at *
      generalize worthQ ws t = wq at *
      repeat (first | (with_reducible first | refine Way.imp ?_ | refine blk_o rfl ?_) | ((with_reducible refine WayR.imp (fun K hK => ?_)); simp (disch := first | omega | (simp only [dls]; omega)) only [std, reduceIte, reduceCtorEq, Int.reduceToNat, Nat.reduceAdd, Nat.reduceSub, Nat.reduceMul, Int.reduceAdd, Int.reduceSub, Int.reduceMul, Int.reduceNeg, fU]; subst hK) | refine zcA (hkf) rfl rfl rfl ?_ | (apply call_any_g (hku) rfl; (case hg => simp (disch := first | omega | (simp only [dls]; omega)) only [std, reduceIte, reduceCtorEq, Int.reduceToNat, Nat.reduceAdd, Nat.reduceSub, Nat.reduceMul, Int.reduceAdd, Int.reduceSub, Int.reduceMul, Int.reduceNeg, fU]); (case hcl => (simp only [evs, St.ev, constAV, evl]; (repeat (first | exact closeAVs_nil | (apply closeAVs_cons; (first | (refine close_own3 rfl (by decide)) | (refine close_ownO rfl (by decide) ?_; assumption) | rfl)))); done)); (case hu => rfl)) | (apply call_any_g (hwo) rfl; (case hg => simp (disch := first | omega | (simp only [dls]; omega)) only [std, reduceIte, reduceCtorEq, Int.reduceToNat, Nat.reduceAdd, Nat.reduceSub, Nat.reduceMul, Int.reduceAdd, Int.reduceSub, Int.reduceMul, Int.reduceNeg, fU]); (case hcl => (simp only [evs, St.ev, constAV, evl]; (repeat (first | exact closeAVs_nil | (apply closeAVs_cons; (first | (refine close_own3 rfl (by decide)) | (refine close_ownO rfl (by decide) ?_; assumption) | rfl)))); done)); (case hu => rfl)) | (apply call_any_g (hlo) rfl; (case hg => simp (disch := first | omega | (simp only [dls]; omega)) only [std, reduceIte, reduceCtorEq, Int.reduceToNat, Nat.reduceAdd, Nat.reduceSub, Nat.reduceMul, Int.reduceAdd, Int.reduceSub, Int.reduceMul, Int.reduceNeg, fU]); (case hcl => (simp only [evs, St.ev, constAV, evl]; (repeat (first | exact closeAVs_nil | (apply closeAVs_cons; (first | (refine close_own3 rfl (by decide)) | (refine close_ownO rfl (by decide) ?_; assumption) | rfl)))); done)); (case hu => rfl)) | (apply call_any_g (his) rfl; (case hg => simp (disch := first | omega | (simp only [dls]; omega)) only [std, reduceIte, reduceCtorEq, Int.reduceToNat, Nat.reduceAdd, Nat.reduceSub, Nat.reduceMul, Int.reduceAdd, Int.reduceSub, Int.reduceMul, Int.reduceNeg, fU]); (case hcl => (simp only [evs, St.ev, constAV, evl]; (repeat (first | exact closeAVs_nil | (apply closeAVs_cons; (first | (refine close_own3 rfl (by decide)) | (refine close_ownO rfl (by decide) ?_; assumption) | rfl)))); done)); (case hu => rfl)) | (apply call_any_g (haw) rfl; (case hg => simp (disch := first | omega | (simp only [dls]; omega)) only [std, reduceIte, reduceCtorEq, Int.reduceToNat, Nat.reduceAdd, Nat.reduceSub, Nat.reduceMul, Int.reduceAdd, Int.reduceSub, Int.reduceMul, Int.reduceNeg, fU]); (case hcl => (simp only [evs, St.ev, constAV, evl]; (repeat (first | exact closeAVs_nil | (apply closeAVs_cons; (first | (refine close_own3 rfl (by decide)) | (refine close_ownO rfl (by decide) ?_; assumption) | rfl)))); done)); (case hu => rfl)))
      exact ⟨_, rfl, rfl⟩
    · have hlt : i < (osl t).length := by omega
      by_cases hlw : i < (osl ws).length
      · obtain ⟨q1, q2, q3⟩ := hstep i hlt hlw
        repeat (first | (with_reducible first | refine Way.imp ?_ | refine blk_o rfl ?_) | ((with_reducible refine WayR.imp (fun K hK => ?_)); simp (disch := first | omega | (simp only [dls]; omega)) only [std, reduceIte, reduceCtorEq, Int.reduceToNat, Nat.reduceAdd, Nat.reduceSub, Nat.reduceMul, Int.reduceAdd, Int.reduceSub, Int.reduceMul, Int.reduceNeg, fU, fI, fR]; subst hK) | refine zcA (q1) rfl rfl rfl ?_ | refine zcA (q2) rfl rfl rfl ?_ | refine zcA (q3) rfl rfl rfl ?_)
        refine ⟨(i + 1), ?hI4, ?hM4, Fgt.head (Nat.zero_le 2) (false :: true :: true :: true :: false :: false :: false :: false :: false :: true :: true :: true :: false :: false :: false :: false :: false :: false :: false :: false :: false :: false :: false :: false :: false :: false :: false :: false :: false :: false :: false :: false :: false :: false :: false :: false :: false :: false :: false :: false :: false :: false :: false :: false :: false :: false :: false :: false :: false :: false :: false :: false :: false :: false :: false :: true :: true :: true :: []) ?hT4 ?hH4⟩
        case hT4 => first | (simp (disch := omega) only [hds, liveT, cleanAV, cleanCell, clean1, cleanBlk, reduceIte, Int.reduceSub, Int.reduceAdd, Int.reduceNeg]; done) | rfl
        case hH4 => first | (simp (disch := omega) only [hds, liveT, cleanAV, cleanCell, clean1, cleanBlk, reduceIte, Int.reduceSub, Int.reduceAdd, Int.reduceNeg]; done) | rfl
        · omega
        · show (osl t).length - (i + 1) < (osl t).length - i; omega
      · have hmw : min (osl ws).length (i + 1) = min (osl ws).length i := by omega
        repeat (first | (with_reducible first | refine Way.imp ?_ | refine blk_o rfl ?_) | ((with_reducible refine WayR.imp (fun K hK => ?_)); simp (disch := first | omega | (simp only [dls]; omega)) only [std, reduceIte, reduceCtorEq, Int.reduceToNat, Nat.reduceAdd, Nat.reduceSub, Nat.reduceMul, Int.reduceAdd, Int.reduceSub, Int.reduceMul, Int.reduceNeg, fU, fI, fR]; subst hK))
        refine ⟨(i + 1), ?hI5, ?hM5, Fgt.head (Nat.zero_le 2) (false :: true :: true :: true :: false :: false :: false :: false :: false :: true :: true :: true :: false :: false :: false :: false :: false :: false :: false :: false :: false :: false :: false :: false :: false :: false :: false :: false :: false :: false :: false :: false :: false :: false :: false :: false :: false :: false :: false :: false :: false :: false :: false :: false :: false :: false :: false :: false :: false :: false :: false :: false :: false :: false :: false :: true :: true :: true :: []) ?hT5 ?hH5⟩
        case hT5 => first | (simp (disch := omega) only [hds, liveT, cleanAV, cleanCell, clean1, cleanBlk, reduceIte, Int.reduceSub, Int.reduceAdd, Int.reduceNeg, hmw]; done) | rfl
        case hH5 => first | (simp (disch := omega) only [hds, liveT, cleanAV, cleanCell, clean1, cleanBlk, reduceIte, Int.reduceSub, Int.reduceAdd, Int.reduceNeg, hmw]; done) | rfl
        · omega
        · show (osl t).length - (i + 1) < (osl t).length - i; omega
  · rw [r1] at hri
    repeat (first | (with_reducible first | refine Way.imp ?_ | refine blk_o rfl ?_) | ((with_reducible refine WayR.imp (fun K hK => ?_)); simp (disch := first | omega | (simp only [dls]; omega)) only [std, reduceIte, reduceCtorEq, Int.reduceToNat, Nat.reduceAdd, Nat.reduceSub, Nat.reduceMul, Int.reduceAdd, Int.reduceSub, Int.reduceMul, Int.reduceNeg, fU]; subst hK) | refine zcA (hof) rfl rfl rfl ?_ | refine zcA (hri) rfl rfl rfl ?_ | refine zcA (h0) rfl rfl rfl ?_)
    refine awp_loop (fun (zz : Nat) => ⟨(.junk :: aV ws :: aTk t :: .one (.ptr 0 0 0 0) :: .junk :: .junk :: .junk :: .junk :: .junk :: aB false :: aI 0 :: .one (.ptr 1 0 0 0) :: .junk :: .junk :: .junk :: .junk :: .junk :: .junk :: .junk :: .junk :: .junk :: .junk :: .junk :: .junk :: .junk :: .junk :: .junk :: .junk :: .junk :: .junk :: .junk :: .junk :: .junk :: .junk :: .junk :: .junk :: .junk :: .junk :: .junk :: .junk :: .junk :: .junk :: .junk :: .junk :: .junk :: .junk :: .junk :: .junk :: .junk :: .junk :: .junk :: .junk :: .junk :: .junk :: .junk :: aTk t :: aI (osl t).length :: aI zz :: .junk :: .junk :: .junk :: .junk :: .junk :: .junk :: .junk :: .junk :: .junk :: .junk :: .junk :: .junk :: .junk :: .junk :: .junk :: .junk :: .junk :: .junk :: .junk :: .junk :: .junk :: .junk :: .junk :: .junk :: .junk :: .junk :: .junk :: .junk :: .junk :: .junk :: .junk :: .junk :: .junk :: .junk :: .junk :: .junk :: .junk :: .junk :: .junk :: .junk :: .junk :: .junk :: .junk :: .junk :: .junk :: .junk :: .junk :: .junk :: .junk :: .junk :: .junk :: .junk :: .junk :: .junk :: .junk :: .junk :: .junk :: .junk :: .junk :: .junk :: .junk :: .junk :: .junk :: .junk :: .junk :: .junk :: .junk :: .junk :: .junk :: .junk :: .junk :: .junk :: .junk :: []), [⟨0, 110, 2, [[.c (.val (.int .i64 s.roll)), .c (encSl 2 fItm s.items)]], true, true⟩, ⟨0, 40, 3, [[.c (.val (.bool (rawQ (worthTo ws t (min (osl ws).length zz))).minus)), .c (nr (rawQ (worthTo ws t (min (osl ws).length zz))).size), .c (nr (rawQ (worthTo ws t (min (osl ws).length zz))).den)]], true, true⟩]⟩) (fun (zz : Nat) => zz ≤ (osl t).length) (fun (zz : Nat) => (osl t).length - zz) (0) ?hI6 (Fgt.head (Nat.zero_le 2) (false :: true :: true :: true :: false :: false :: false :: false :: false :: true :: true :: true :: false :: false :: false :: false :: false :: false :: false :: false :: false :: false :: false :: false :: false :: false :: false :: false :: false :: false :: false :: false :: false :: false :: false :: false :: false :: false :: false :: false :: false :: false :: false :: false :: false :: false :: false :: false :: false :: false :: false :: false :: false :: false :: false :: true :: true :: true :: []) ?hT6 ?hH6) ?hB6
    case hT6 => first | (simp (disch := omega) only [hds, liveT, cleanAV, cleanCell, clean1, cleanBlk, reduceIte, Int.reduceSub, Int.reduceAdd, Int.reduceNeg, hz]; done) | rfl
    case hH6 => first | (simp (disch := omega) only [hds, liveT, cleanAV, cleanCell, clean1, cleanBlk, reduceIte, Int.reduceSub, Int.reduceAdd, Int.reduceNeg, hz]; done) | rfl
    · exact Nat.zero_le _
    rintro i hi
    by_cases hie : i = (osl t).length
    · rw [hie]
      change PureC _ _ [aR (rawQ (worthTo ws t (min (osl ws).length (osl t).length)))] _ at hlo
      change PureC _ _ _ (.ret (aR (rawQ (worthTo ws t (min (osl ws).length (osl t).length))))) at hwo
      change PureC _ _ [aR (rawQ (worthTo ws t (min (osl ws).length (osl t).length))), _] _ at his
      have hok : okW s t = false := by rw [← isK_len]; unfold isK; rw [r3]; rfl
      have hff : fitsT s t = false := by unfold fitsT; rw [hok]; rfl
      have hfu : useT s t = 0 := by unfold useT; rw [hff]; rfl
      rw [hff] at hkf
      rw [hfu] at hku
      generalize rawQ (worthTo ws t (min (osl ws).length (osl t).length)) = qq at *
      generalize worthQ ws t = wq at *
      repeat (first | (with_reducible first | refine Way.imp ?_ | refine blk_o rfl ?_) | ((with_reducible refine WayR.imp (fun K hK => ?_)); simp (disch := first | omega | (simp only [dls]; omega)) only [std, reduceIte, reduceCtorEq, Int.reduceToNat, Nat.reduceAdd, Nat.reduceSub, Nat.reduceMul, Int.reduceAdd, Int.reduceSub, Int.reduceMul, Int.reduceNeg, fU]; subst hK) | refine zcA (hkf) rfl rfl rfl ?_ | (apply call_any_g (hku) rfl; (case hg => simp (disch := first | omega | (simp only [dls]; omega)) only [std, reduceIte, reduceCtorEq, Int.reduceToNat, Nat.reduceAdd, Nat.reduceSub, Nat.reduceMul, Int.reduceAdd, Int.reduceSub, Int.reduceMul, Int.reduceNeg, fU]); (case hcl => (simp only [evs, St.ev, constAV, evl]; (repeat (first | exact closeAVs_nil | (apply closeAVs_cons; (first | (refine close_own3 rfl (by decide)) | (refine close_ownO rfl (by decide) ?_; assumption) | rfl)))); done)); (case hu => rfl)) | (apply call_any_g (hwo) rfl; (case hg => simp (disch := first | omega | (simp only [dls]; omega)) only [std, reduceIte, reduceCtorEq, Int.reduceToNat, Nat.reduceAdd, Nat.reduceSub, Nat.reduceMul, Int.reduceAdd, Int.reduceSub, Int.reduceMul, Int.reduceNeg, fU]); (case hcl => (simp only [evs, St.ev, constAV, evl]; (repeat (first | exact closeAVs_nil | (apply closeAVs_cons; (first | (refine close_own3 rfl (by decide)) | (refine close_ownO rfl (by decide) ?_; assumption) | rfl)))); done)); (case hu => rfl)) | (apply call_any_g (hlo) rfl; (case hg => simp (disch := first | omega | (simp only [dls]; omega)) only [std, reduceIte, reduceCtorEq, Int.reduceToNat, Nat.reduceAdd, Nat.reduceSub, Nat.reduceMul, Int.reduceAdd, Int.reduceSub, Int.reduceMul, Int.reduceNeg, fU]); (case hcl => (simp only [evs, St.ev, constAV, evl]; (repeat (first | exact closeAVs_nil | (apply closeAVs_cons; (first | (refine close_own3 rfl (by decide)) | (refine close_ownO rfl (by decide) ?_; assumption) | rfl)))); done)); (case hu => rfl)) | (apply call_any_g (his) rfl; (case hg => simp (disch := first | omega | (simp only [dls]; omega)) only [std, reduceIte, reduceCtorEq, Int.reduceToNat, Nat.reduceAdd, Nat.reduceSub, Nat.reduceMul, Int.reduceAdd, Int.reduceSub, Int.reduceMul, Int.reduceNeg, fU]); (case hcl => (simp only [evs, St.ev, constAV, evl]; (repeat (first | exact closeAVs_nil | (apply closeAVs_cons; (first | (refine close_own3 rfl (by decide)) | (refine close_ownO rfl (by decide) ?_; assumption) | rfl)))); done)); (case hu => rfl)) | (apply call_any_g (haw) rfl; (case hg => simp (disch := first | omega | (simp only [dls]; omega)) only [std, reduceIte, reduceCtorEq, Int.reduceToNat, Nat.reduceAdd, Nat.reduceSub, Nat.reduceMul, Int.reduceAdd, Int.reduceSub, Int.reduceMul, Int.reduceNeg, fU]); (case hcl => (simp only [evs, St.ev, constAV, evl]; (repeat (first | exact closeAVs_nil | (apply closeAVs_cons; (first | (refine close_own3 rfl (by decide)) | (refine close_ownO rfl (by decide) ?_; assumption) | rfl)))); done)); (case hu => rfl)))
      exact ⟨_, rfl, rfl⟩
    · have hlt : i < (osl t).length := by omega
      by_cases hlw : i < (osl ws).length
      · obtain ⟨q1, q2, q3⟩ := hstep i hlt hlw
        repeat (first | (with_reducible first | refine Way.imp ?_ | refine blk_o rfl ?_) | ((with_reducible refine WayR.imp (fun K hK => ?_)); simp (disch := first | omega | (simp only [dls]; omega)) only [std, reduceIte, reduceCtorEq, Int.reduceToNat, Nat.reduceAdd, Nat.reduceSub, Nat.reduceMul, Int.reduceAdd, Int.reduceSub, Int.reduceMul, Int.reduceNeg, fU, fI, fR]; subst hK) | refine zcA (q1) rfl rfl rfl ?_ | refine zcA (q2) rfl rfl rfl ?_ | refine zcA (q3) rfl rfl rfl ?_)
        refine ⟨(i + 1), ?hI7, ?hM7, Fgt.head (Nat.zero_le 2) (false :: true :: true :: true :: false :: false :: false :: false :: false :: true :: true :: true :: false :: false :: false :: false :: false :: false :: false :: false :: false :: false :: false :: false :: false :: false :: false :: false :: false :: false :: false :: false :: false :: false :: false :: false :: false :: false :: false :: false :: false :: false :: false :: false :: false :: false :: false :: false :: false :: false :: false :: false :: false :: false :: false :: true :: true :: true :: []) ?hT7 ?hH7⟩
        case hT7 => first | (simp (disch := omega) only [hds, liveT, cleanAV, cleanCell, clean1, cleanBlk, reduceIte, Int.reduceSub, Int.reduceAdd, Int.reduceNeg]; done) | rfl
        case hH7 => first | (simp (disch := omega) only [hds, liveT, cleanAV, cleanCell, clean1, cleanBlk, reduceIte, Int.reduceSub, Int.reduceAdd, Int.reduceNeg]; done) | rfl
        · omega
        · show (osl t).length - (i + 1) < (osl t).length - i; omega
      · have hmw : min (osl ws).length (i + 1) = min (osl ws).length i := by omega
        repeat (first | (with_reducible first | refine Way.imp ?_ | refine blk_o rfl ?_) | ((with_reducible refine WayR.imp (fun K hK => ?_)); simp (disch := first | omega | (simp only [dls]; omega)) only [std, reduceIte, reduceCtorEq, Int.reduceToNat, Nat.reduceAdd, Nat.reduceSub, Nat.reduceMul, Int.reduceAdd, Int.reduceSub, Int.reduceMul, Int.reduceNeg, fU, fI, fR]; subst hK))
        refine ⟨(i + 1), ?hI8, ?hM8, Fgt.head (Nat.zero_le 2) (false :: true :: true :: true :: false :: false :: false :: false :: false :: true :: true :: true :: false :: false :: false :: false :: false :: false :: false :: false :: false :: false :: false :: false :: false :: false :: false :: false :: false :: false :: false :: false :: false :: false :: false :: false :: false :: false :: false :: false :: false :: false :: false :: false :: false :: false :: false :: false :: false :: false :: false :: false :: false :: false :: false :: true :: true :: true :: []) ?hT8 ?hH8⟩
        case hT8 => first | (simp (disch := omega) only [hds, liveT, cleanAV, cleanCell, clean1, cleanBlk, reduceIte, Int.reduceSub, Int.reduceAdd, Int.reduceNeg, hmw]; done) | rfl
        case hH8 => first | (simp (disch := omega) only [hds, liveT, cleanAV, cleanCell, clean1, cleanBlk, reduceIte, Int.reduceSub, Int.reduceAdd, Int.reduceNeg, hmw]; done) | rfl
        · omega
        · show (osl t).length - (i + 1) < (osl t).length - i; omega
  have hlen := r2
  have rt := rtS_of r1
  rw [r1] at hri
  repeat (first | (with_reducible first | refine Way.imp ?_ | refine blk_o rfl ?_) | ((with_reducible refine WayR.imp (fun K hK => ?_)); simp (disch := first | omega | (simp only [dls]; omega)) only [std, reduceIte, reduceCtorEq, Int.reduceToNat, Nat.reduceAdd, Nat.reduceSub, Nat.reduceMul, Int.reduceAdd, Int.reduceSub, Int.reduceMul, Int.reduceNeg, fU, r2]; subst hK) | refine zcA (hof) rfl rfl rfl ?_ | refine zcA (hri) rfl rfl rfl ?_ | refine zcA (h0) rfl rfl rfl ?_)
  refine awp_loop (fun (zz : Nat × Bool × Int) => ⟨(.junk :: aV ws :: aTk t :: .one (.ptr 0 0 0 0) :: .junk :: .junk :: .junk :: .junk :: .junk :: aB zz.2.1 :: aI zz.2.2 :: .one (.ptr 1 0 0 0) :: .junk :: .junk :: .junk :: .junk :: .junk :: .junk :: .junk :: .junk :: .junk :: .junk :: .junk :: .junk :: .junk :: .junk :: .junk :: .junk :: .junk :: .junk :: .junk :: .junk :: .junk :: .junk :: .junk :: .junk :: .junk :: .junk :: .junk :: .junk :: .junk :: .junk :: .junk :: .junk :: .junk :: .junk :: .junk :: .junk :: .junk :: .junk :: .junk :: .junk :: .junk :: .junk :: .junk :: aTk t :: aI (osl t).length :: aI zz.1 :: .junk :: .junk :: .junk :: .junk :: .junk :: .junk :: .junk :: .junk :: .junk :: .junk :: .junk :: .junk :: .junk :: .junk :: .junk :: .junk :: .junk :: .junk :: .junk :: .junk :: .junk :: .junk :: .junk :: .junk :: .junk :: .junk :: .junk :: .junk :: .junk :: .junk :: .junk :: .junk :: .junk :: .junk :: .junk :: .junk :: .junk :: .junk :: .junk :: .junk :: .junk :: .junk :: .junk :: .junk :: .junk :: .junk :: .junk :: .junk :: .junk :: .junk :: .junk :: .junk :: .junk :: .junk :: .junk :: .junk :: .junk :: .junk :: .junk :: .junk :: .junk :: .junk :: .junk :: .junk :: .junk :: .junk :: .junk :: .junk :: .junk :: .junk :: .junk :: .junk :: .junk :: []), [⟨0, 110, 2, [[.c (.val (.int .i64 s.roll)), .c (encSl 2 fItm s.items)]], true, true⟩, ⟨0, 40, 3, [[.c (.val (.bool (rawQ (worthTo ws t (min (osl ws).length zz.1))).minus)), .c (nr (rawQ (worthTo ws t (min (osl ws).length zz.1))).size), .c (nr (rawQ (worthTo ws t (min (osl ws).length zz.1))).den)]], true, true⟩]⟩) (fun (zz : Nat × Bool × Int) => zz.1 ≤ (osl t).length ∧ zz.2.1 = isK s t zz.1 ∧ (zz.2.1 = true → zz.2.2 = wideTo s t zz.1) ∧ 0 ≤ zz.2.2 ∧ zz.2.2 ≤ (zz.1 : Int) * 1048576000) (fun (zz : Nat × Bool × Int) => (osl t).length - zz.1) (0, true, 0) ?hI9 (Fgt.head (Nat.zero_le 2) (false :: true :: true :: true :: false :: false :: false :: false :: false :: true :: true :: true :: false :: false :: false :: false :: false :: false :: false :: false :: false :: false :: false :: false :: false :: false :: false :: false :: false :: false :: false :: false :: false :: false :: false :: false :: false :: false :: false :: false :: false :: false :: false :: false :: false :: false :: false :: false :: false :: false :: false :: false :: false :: false :: false :: true :: true :: true :: []) ?hT9 ?hH9) ?hB9
  case hT9 => first | (simp (disch := omega) only [hds, liveT, cleanAV, cleanCell, clean1, cleanBlk, reduceIte, Int.reduceSub, Int.reduceAdd, Int.reduceNeg, hz, r2]; done) | rfl
  case hH9 => first | (simp (disch := omega) only [hds, liveT, cleanAV, cleanCell, clean1, cleanBlk, reduceIte, Int.reduceSub, Int.reduceAdd, Int.reduceNeg, hz, r2]; done) | rfl
  · dsimp only; exact ⟨Nat.zero_le _, by rw [hi00, r3], fun _ => hw00.symm, by omega, by omega⟩
  rintro ⟨i, b, w⟩ ⟨hi, hb, hw, hw0, hw1⟩
  dsimp only at hi hb hw hw0 hw1
  by_cases hie : i = (osl t).length
  · rw [hie] at hb hw ⊢
    rw [isK_len] at hb
    change PureC _ _ [aR (rawQ (worthTo ws t (min (osl ws).length (osl t).length)))] _ at hlo
    change PureC _ _ _ (.ret (aR (rawQ (worthTo ws t (min (osl ws).length (osl t).length))))) at hwo
    change PureC _ _ [aR (rawQ (worthTo ws t (min (osl ws).length (osl t).length))), _] _ at his
    generalize rawQ (worthTo ws t (min (osl ws).length (osl t).length)) = qq at *
    generalize worthQ ws t = wq at *
    have hfv : fitsT s t = (b && decide (wideTo s t (osl t).length ≤ s.roll)) := by unfold fitsT; rw [← hb, hlen]
    have huv : useT s t = if fitsT s t then wideTo s t (osl t).length else 0 := by unfold useT; rw [hlen]
    cases b with
    | false =>
      rw [Bool.false_and] at hfv
      rw [hfv, if_neg (by simp)] at huv
      rw [hfv] at hkf
      rw [huv] at hku
      repeat (first | (with_reducible first | refine Way.imp ?_ | refine blk_o rfl ?_) | ((with_reducible refine WayR.imp (fun K hK => ?_)); simp (disch := first | omega | (simp only [dls]; omega)) only [std, reduceIte, reduceCtorEq, Int.reduceToNat, Nat.reduceAdd, Nat.reduceSub, Nat.reduceMul, Int.reduceAdd, Int.reduceSub, Int.reduceMul, Int.reduceNeg, fU]; subst hK) | refine zcA (hkf) rfl rfl rfl ?_ | (apply call_any_g (hku) rfl; (case hg => simp (disch := first | omega | (simp only [dls]; omega)) only [std, reduceIte, reduceCtorEq, Int.reduceToNat, Nat.reduceAdd, Nat.reduceSub, Nat.reduceMul, Int.reduceAdd, Int.reduceSub, Int.reduceMul, Int.reduceNeg, fU]); (case hcl => (simp only [evs, St.ev, constAV, evl]; (repeat (first | exact closeAVs_nil | (apply closeAVs_cons; (first | (refine close_own3 rfl (by decide)) | (refine close_ownO rfl (by decide) ?_; assumption) | rfl)))); done)); (case hu => rfl)) | (apply call_any_g (hwo) rfl; (case hg => simp (disch := first | omega | (simp only [dls]; omega)) only [std, reduceIte, reduceCtorEq, Int.reduceToNat, Nat.reduceAdd, Nat.reduceSub, Nat.reduceMul, Int.reduceAdd, Int.reduceSub, Int.reduceMul, Int.reduceNeg, fU]); (case hcl => (simp only [evs, St.ev, constAV, evl]; (repeat (first | exact closeAVs_nil | (apply closeAVs_cons; (first | (refine close_own3 rfl (by decide)) | (refine close_ownO rfl (by decide) ?_; assumption) | rfl)))); done)); (case hu => rfl)) | (apply call_any_g (hlo) rfl; (case hg => simp (disch := first | omega | (simp only [dls]; omega)) only [std, reduceIte, reduceCtorEq, Int.reduceToNat, Nat.reduceAdd, Nat.reduceSub, Nat.reduceMul, Int.reduceAdd, Int.reduceSub, Int.reduceMul, Int.reduceNeg, fU]); (case hcl => (simp only [evs, St.ev, constAV, evl]; (repeat (first | exact closeAVs_nil | (apply closeAVs_cons; (first | (refine close_own3 rfl (by decide)) | (refine close_ownO rfl (by decide) ?_; assumption) | rfl)))); done)); (case hu => rfl)) | (apply call_any_g (his) rfl; (case hg => simp (disch := first | omega | (simp only [dls]; omega)) only [std, reduceIte, reduceCtorEq, Int.reduceToNat, Nat.reduceAdd, Nat.reduceSub, Nat.reduceMul, Int.reduceAdd, Int.reduceSub, Int.reduceMul, Int.reduceNeg, fU]); (case hcl => (simp only [evs, St.ev, constAV, evl]; (repeat (first | exact closeAVs_nil | (apply closeAVs_cons; (first | (refine close_own3 rfl (by decide)) | (refine close_ownO rfl (by decide) ?_; assumption) | rfl)))); done)); (case hu => rfl)) | (apply call_any_g (haw) rfl; (case hg => simp (disch := first | omega | (simp only [dls]; omega)) only [std, reduceIte, reduceCtorEq, Int.reduceToNat, Nat.reduceAdd, Nat.reduceSub, Nat.reduceMul, Int.reduceAdd, Int.reduceSub, Int.reduceMul, Int.reduceNeg, fU]); (case hcl => (simp only [evs, St.ev, constAV, evl]; (repeat (first | exact closeAVs_nil | (apply closeAVs_cons; (first | (refine close_own3 rfl (by decide)) | (refine close_ownO rfl (by decide) ?_; assumption) | rfl)))); done)); (case hu => rfl)))
      exact ⟨_, rfl, rfl⟩
    | true =>
      rw [Bool.true_and, ← hw rfl] at hfv
      rw [← hw rfl] at huv
      by_cases hr : w ≤ s.roll
      · rw [decide_eq_true hr] at hfv
        rw [hfv, if_pos rfl] at huv
        rw [hfv] at hkf
        rw [huv] at hku
        repeat (first | (with_reducible first | refine Way.imp ?_ | refine blk_o rfl ?_) | ((with_reducible refine WayR.imp (fun K hK => ?_)); simp (disch := first | omega | (simp only [dls]; omega)) only [std, reduceIte, reduceCtorEq, Int.reduceToNat, Nat.reduceAdd, Nat.reduceSub, Nat.reduceMul, Int.reduceAdd, Int.reduceSub, Int.reduceMul, Int.reduceNeg, fU]; subst hK) | refine zcA (hkf) rfl rfl rfl ?_ | (apply call_any_g (hku) rfl; (case hg => simp (disch := first | omega | (simp only [dls]; omega)) only [std, reduceIte, reduceCtorEq, Int.reduceToNat, Nat.reduceAdd, Nat.reduceSub, Nat.reduceMul, Int.reduceAdd, Int.reduceSub, Int.reduceMul, Int.reduceNeg, fU]); (case hcl => (simp only [evs, St.ev, constAV, evl]; (repeat (first | exact closeAVs_nil | (apply closeAVs_cons; (first | (refine close_own3 rfl (by decide)) | (refine close_ownO rfl (by decide) ?_; assumption) | rfl)))); done)); (case hu => rfl)) | (apply call_any_g (hwo) rfl; (case hg => simp (disch := first | omega | (simp only [dls]; omega)) only [std, reduceIte, reduceCtorEq, Int.reduceToNat, Nat.reduceAdd, Nat.reduceSub, Nat.reduceMul, Int.reduceAdd, Int.reduceSub, Int.reduceMul, Int.reduceNeg, fU]); (case hcl => (simp only [evs, St.ev, constAV, evl]; (repeat (first | exact closeAVs_nil | (apply closeAVs_cons; (first | (refine close_own3 rfl (by decide)) | (refine close_ownO rfl (by decide) ?_; assumption) | rfl)))); done)); (case hu => rfl)) | (apply call_any_g (hlo) rfl; (case hg => simp (disch := first | omega | (simp only [dls]; omega)) only [std, reduceIte, reduceCtorEq, Int.reduceToNat, Nat.reduceAdd, Nat.reduceSub, Nat.reduceMul, Int.reduceAdd, Int.reduceSub, Int.reduceMul, Int.reduceNeg, fU]); (case hcl => (simp only [evs, St.ev, constAV, evl]; (repeat (first | exact closeAVs_nil | (apply closeAVs_cons; (first | (refine close_own3 rfl (by decide)) | (refine close_ownO rfl (by decide) ?_; assumption) | rfl)))); done)); (case hu => rfl)) | (apply call_any_g (his) rfl; (case hg => simp (disch := first | omega | (simp only [dls]; omega)) only [std, reduceIte, reduceCtorEq, Int.reduceToNat, Nat.reduceAdd, Nat.reduceSub, Nat.reduceMul, Int.reduceAdd, Int.reduceSub, Int.reduceMul, Int.reduceNeg, fU]); (case hcl => (simp only [evs, St.ev, constAV, evl]; (repeat (first | exact closeAVs_nil | (apply closeAVs_cons; (first | (refine close_own3 rfl (by decide)) | (refine close_ownO rfl (by decide) ?_; assumption) | rfl)))); done)); (case hu => rfl)) | (apply call_any_g (haw) rfl; (case hg => simp (disch := first | omega | (simp only [dls]; omega)) only [std, reduceIte, reduceCtorEq, Int.reduceToNat, Nat.reduceAdd, Nat.reduceSub, Nat.reduceMul, Int.reduceAdd, Int.reduceSub, Int.reduceMul, Int.reduceNeg, fU]); (case hcl => (simp only [evs, St.ev, constAV, evl]; (repeat (first | exact closeAVs_nil | (apply closeAVs_cons; (first | (refine close_own3 rfl (by decide)) | (refine close_ownO rfl (by decide) ?_; assumption) | rfl)))); done)); (case hu => rfl)))
        exact ⟨_, rfl, rfl⟩
      · rw [decide_eq_false hr] at hfv
        rw [hfv, if_neg (by simp)] at huv
        rw [hfv] at hkf
        rw [huv] at hku
        repeat (first | (with_reducible first | refine Way.imp ?_ | refine blk_o rfl ?_) | ((with_reducible refine WayR.imp (fun K hK => ?_)); simp (disch := first | omega | (simp only [dls]; omega)) only [std, reduceIte, reduceCtorEq, Int.reduceToNat, Nat.reduceAdd, Nat.reduceSub, Nat.reduceMul, Int.reduceAdd, Int.reduceSub, Int.reduceMul, Int.reduceNeg, fU]; subst hK) | refine zcA (hkf) rfl rfl rfl ?_ | (apply call_any_g (hku) rfl; (case hg => simp (disch := first | omega | (simp only [dls]; omega)) only [std, reduceIte, reduceCtorEq, Int.reduceToNat, Nat.reduceAdd, Nat.reduceSub, Nat.reduceMul, Int.reduceAdd, Int.reduceSub, Int.reduceMul, Int.reduceNeg, fU]); (case hcl => (simp only [evs, St.ev, constAV, evl]; (repeat (first | exact closeAVs_nil | (apply closeAVs_cons; (first | (refine close_own3 rfl (by decide)) | (refine close_ownO rfl (by decide) ?_; assumption) | rfl)))); done)); (case hu => rfl)) | (apply call_any_g (hwo) rfl; (case hg => simp (disch := first | omega | (simp only [dls]; omega)) only [std, reduceIte, reduceCtorEq, Int.reduceToNat, Nat.reduceAdd, Nat.reduceSub, Nat.reduceMul, Int.reduceAdd, Int.reduceSub, Int.reduceMul, Int.reduceNeg, fU]); (case hcl => (simp only [evs, St.ev, constAV, evl]; (repeat (first | exact closeAVs_nil | (apply closeAVs_cons; (first | (refine close_own3 rfl (by decide)) | (refine close_ownO rfl (by decide) ?_; assumption) | rfl)))); done)); (case hu => rfl)) | (apply call_any_g (hlo) rfl; (case hg => simp (disch := first | omega | (simp only [dls]; omega)) only [std, reduceIte, reduceCtorEq, Int.reduceToNat, Nat.reduceAdd, Nat.reduceSub, Nat.reduceMul, Int.reduceAdd, Int.reduceSub, Int.reduceMul, Int.reduceNeg, fU]); (case hcl => (simp only [evs, St.ev, constAV, evl]; (repeat (first | exact closeAVs_nil | (apply closeAVs_cons; (first | (refine close_own3 rfl (by decide)) | (refine close_ownO rfl (by decide) ?_; assumption) | rfl)))); done)); (case hu => rfl)) | (apply call_any_g (his) rfl; (case hg => simp (disch := first | omega | (simp only [dls]; omega)) only [std, reduceIte, reduceCtorEq, Int.reduceToNat, Nat.reduceAdd, Nat.reduceSub, Nat.reduceMul, Int.reduceAdd, Int.reduceSub, Int.reduceMul, Int.reduceNeg, fU]); (case hcl => (simp only [evs, St.ev, constAV, evl]; (repeat (first | exact closeAVs_nil | (apply closeAVs_cons; (first | (refine close_own3 rfl (by decide)) | (refine close_ownO rfl (by decide) ?_; assumption) | rfl)))); done)); (case hu => rfl)) | (apply call_any_g (haw) rfl; (case hg => simp (disch := first | omega | (simp only [dls]; omega)) only [std, reduceIte, reduceCtorEq, Int.reduceToNat, Nat.reduceAdd, Nat.reduceSub, Nat.reduceMul, Int.reduceAdd, Int.reduceSub, Int.reduceMul, Int.reduceNeg, fU]); (case hcl => (simp only [evs, St.ev, constAV, evl]; (repeat (first | exact closeAVs_nil | (apply closeAVs_cons; (first | (refine close_own3 rfl (by decide)) | (refine close_ownO rfl (by decide) ?_; assumption) | rfl)))); done)); (case hu => rfl)))
        exact ⟨_, rfl, rfl⟩
  have hlt : i < (osl t).length := by omega
  have hli : i < (osl s.items).length := by omega
  have hks := isK_succ s t i
  cases b with
  | false =>
    rw [← hb, Bool.false_and] at hks
    by_cases hlw : i < (osl ws).length
    · obtain ⟨q1, q2, q3⟩ := hstep i hlt hlw
      repeat (first | (with_reducible first | refine Way.imp ?_ | refine blk_o rfl ?_) | ((with_reducible refine WayR.imp (fun K hK => ?_)); simp (disch := first | omega | (simp only [dls]; omega)) only [std, reduceIte, reduceCtorEq, Int.reduceToNat, Nat.reduceAdd, Nat.reduceSub, Nat.reduceMul, Int.reduceAdd, Int.reduceSub, Int.reduceMul, Int.reduceNeg, fU, fI, fR]; subst hK) | refine zcA (q1) rfl rfl rfl ?_ | refine zcA (q2) rfl rfl rfl ?_ | refine zcA (q3) rfl rfl rfl ?_)
      refine ⟨(i + 1, false, w), ?hI10, ?hM10, Fgt.head (Nat.zero_le 2) (false :: true :: true :: true :: false :: false :: false :: false :: false :: true :: true :: true :: false :: false :: false :: false :: false :: false :: false :: false :: false :: false :: false :: false :: false :: false :: false :: false :: false :: false :: false :: false :: false :: false :: false :: false :: false :: false :: false :: false :: false :: false :: false :: false :: false :: false :: false :: false :: false :: false :: false :: false :: false :: false :: false :: true :: true :: true :: []) ?hT10 ?hH10⟩
      case hT10 => first | (simp (disch := omega) only [hds, liveT, cleanAV, cleanCell, clean1, cleanBlk, reduceIte, Int.reduceSub, Int.reduceAdd, Int.reduceNeg]; done) | rfl
      case hH10 => first | (simp (disch := omega) only [hds, liveT, cleanAV, cleanCell, clean1, cleanBlk, reduceIte, Int.reduceSub, Int.reduceAdd, Int.reduceNeg]; done) | rfl
      · dsimp only; exact ⟨hlt, hks.symm, (by intro h; cases h), hw0, by omega⟩
      · dsimp only; omega
    · have hmw : min (osl ws).length (i + 1) = min (osl ws).length i := by omega
      repeat (first | (with_reducible first | refine Way.imp ?_ | refine blk_o rfl ?_) | ((with_reducible refine WayR.imp (fun K hK => ?_)); simp (disch := first | omega | (simp only [dls]; omega)) only [std, reduceIte, reduceCtorEq, Int.reduceToNat, Nat.reduceAdd, Nat.reduceSub, Nat.reduceMul, Int.reduceAdd, Int.reduceSub, Int.reduceMul, Int.reduceNeg, fU, fI, fR]; subst hK))
      refine ⟨(i + 1, false, w), ?hI11, ?hM11, Fgt.head (Nat.zero_le 2) (false :: true :: true :: true :: false :: false :: false :: false :: false :: true :: true :: true :: false :: false :: false :: false :: false :: false :: false :: false :: false :: false :: false :: false :: false :: false :: false :: false :: false :: false :: false :: false :: false :: false :: false :: false :: false :: false :: false :: false :: false :: false :: false :: false :: false :: false :: false :: false :: false :: false :: false :: false :: false :: false :: false :: true :: true :: true :: []) ?hT11 ?hH11⟩
      case hT11 => first | (simp (disch := omega) only [hds, liveT, cleanAV, cleanCell, clean1, cleanBlk, reduceIte, Int.reduceSub, Int.reduceAdd, Int.reduceNeg, hmw]; done) | rfl
      case hH11 => first | (simp (disch := omega) only [hds, liveT, cleanAV, cleanCell, clean1, cleanBlk, reduceIte, Int.reduceSub, Int.reduceAdd, Int.reduceNeg, hmw]; done) | rfl
      · dsimp only; exact ⟨hlt, hks.symm, (by intro h; cases h), hw0, by omega⟩
      · dsimp only; omega
  | true =>
    rw [← hb, Bool.true_and] at hks
    have hwi := hw rfl
    obtain ⟨⟨w1, w2⟩, n1, n2⟩ := rt.item i hli
    have hok : okT s t i = (decide (0 ≤ (osl t)[i]) && decide ((osl t)[i] ≤ (osl s.items)[i].need)) := by unfold okT; rw [tkAt_in hlt, itAt_in hli]
    rw [itAt_in hli] at w1 w2 n1 n2
    obtain ⟨t1, t2⟩ := hth i hlt
    have m1 : (if (1000 : Int) < (osl t)[i] then (1000 : Int) else (osl t)[i]) = (osl t)[i] := if_neg (by omega)
    have m2 : (if (1048576 : Int) < (osl s.items)[i].width then (1048576 : Int) else (osl s.items)[i].width) = (osl s.items)[i].width := if_neg (by omega)
    by_cases h1 : 0 ≤ (osl t)[i]
    · have m3 : (if (osl t)[i] < (0 : Int) then (0 : Int) else (osl t)[i]) = (osl t)[i] := if_neg (by omega)
      have m3' : (if (0 : Int) < (osl t)[i] then (osl t)[i] else (0 : Int)) = (osl t)[i] := by split <;> omega
      have hm1 : 0 ≤ (osl t)[i] * (osl s.items)[i].width := Int.mul_nonneg h1 (by omega)
      have hm2 : (osl t)[i] * (osl s.items)[i].width ≤ 1000 * 1048576 := Int.mul_le_mul (by omega) w2 (by omega) (by omega)
      have hws : wideTo s t (i + 1) = wideTo s t i + (osl t)[i] * (osl s.items)[i].width := by
        show wideTo s t i + tkAt t i * (itAt s i).width = _
        rw [tkAt_in hlt, itAt_in hli]
      by_cases h2 : (osl t)[i] ≤ (osl s.items)[i].need
      · rw [decide_eq_true h1, decide_eq_true h2, Bool.true_and] at hok
        rw [hok] at hks
        by_cases hlw : i < (osl ws).length
        · obtain ⟨q1, q2, q3⟩ := hstep i hlt hlw
          repeat (first | (with_reducible first | refine Way.imp ?_ | refine blk_o rfl ?_) | ((with_reducible refine WayR.imp (fun K hK => ?_)); simp (disch := first | omega | (simp only [dls]; omega)) only [std, reduceIte, reduceCtorEq, Int.reduceToNat, Nat.reduceAdd, Nat.reduceSub, Nat.reduceMul, Int.reduceAdd, Int.reduceSub, Int.reduceMul, Int.reduceNeg, fU, fI, fR, fItm, m1, m2, m3, m3']; subst hK) | refine zcA (q1) rfl rfl rfl ?_ | refine zcA (q2) rfl rfl rfl ?_ | refine zcA (q3) rfl rfl rfl ?_)
          refine ⟨(i + 1, true, w + (osl t)[i] * (osl s.items)[i].width), ?hI12, ?hM12, Fgt.head (Nat.zero_le 2) (false :: true :: true :: true :: false :: false :: false :: false :: false :: true :: true :: true :: false :: false :: false :: false :: false :: false :: false :: false :: false :: false :: false :: false :: false :: false :: false :: false :: false :: false :: false :: false :: false :: false :: false :: false :: false :: false :: false :: false :: false :: false :: false :: false :: false :: false :: false :: false :: false :: false :: false :: false :: false :: false :: false :: true :: true :: true :: []) ?hT12 ?hH12⟩
          case hT12 => first | (simp (disch := omega) only [hds, liveT, cleanAV, cleanCell, clean1, cleanBlk, reduceIte, Int.reduceSub, Int.reduceAdd, Int.reduceNeg]; done) | rfl
          case hH12 => first | (simp (disch := omega) only [hds, liveT, cleanAV, cleanCell, clean1, cleanBlk, reduceIte, Int.reduceSub, Int.reduceAdd, Int.reduceNeg]; done) | rfl
          · dsimp only; exact ⟨hlt, hks.symm, fun _ => by rw [hws, hwi], by omega, by omega⟩
          · dsimp only; omega
        · have hmw : min (osl ws).length (i + 1) = min (osl ws).length i := by omega
          repeat (first | (with_reducible first | refine Way.imp ?_ | refine blk_o rfl ?_) | ((with_reducible refine WayR.imp (fun K hK => ?_)); simp (disch := first | omega | (simp only [dls]; omega)) only [std, reduceIte, reduceCtorEq, Int.reduceToNat, Nat.reduceAdd, Nat.reduceSub, Nat.reduceMul, Int.reduceAdd, Int.reduceSub, Int.reduceMul, Int.reduceNeg, fU, fI, fR, fItm, m1, m2, m3, m3']; subst hK))
          refine ⟨(i + 1, true, w + (osl t)[i] * (osl s.items)[i].width), ?hI13, ?hM13, Fgt.head (Nat.zero_le 2) (false :: true :: true :: true :: false :: false :: false :: false :: false :: true :: true :: true :: false :: false :: false :: false :: false :: false :: false :: false :: false :: false :: false :: false :: false :: false :: false :: false :: false :: false :: false :: false :: false :: false :: false :: false :: false :: false :: false :: false :: false :: false :: false :: false :: false :: false :: false :: false :: false :: false :: false :: false :: false :: false :: false :: true :: true :: true :: []) ?hT13 ?hH13⟩
          case hT13 => first | (simp (disch := omega) only [hds, liveT, cleanAV, cleanCell, clean1, cleanBlk, reduceIte, Int.reduceSub, Int.reduceAdd, Int.reduceNeg, hmw]; done) | rfl
          case hH13 => first | (simp (disch := omega) only [hds, liveT, cleanAV, cleanCell, clean1, cleanBlk, reduceIte, Int.reduceSub, Int.reduceAdd, Int.reduceNeg, hmw]; done) | rfl
          · dsimp only; exact ⟨hlt, hks.symm, fun _ => by rw [hws, hwi], by omega, by omega⟩
          · dsimp only; omega
      · rw [decide_eq_false h2, Bool.and_false] at hok
        rw [hok] at hks
        by_cases hlw : i < (osl ws).length
        · obtain ⟨q1, q2, q3⟩ := hstep i hlt hlw
          repeat (first | (with_reducible first | refine Way.imp ?_ | refine blk_o rfl ?_) | ((with_reducible refine WayR.imp (fun K hK => ?_)); simp (disch := first | omega | (simp only [dls]; omega)) only [std, reduceIte, reduceCtorEq, Int.reduceToNat, Nat.reduceAdd, Nat.reduceSub, Nat.reduceMul, Int.reduceAdd, Int.reduceSub, Int.reduceMul, Int.reduceNeg, fU, fI, fR, fItm, m1, m2, m3, m3']; subst hK) | refine zcA (q1) rfl rfl rfl ?_ | refine zcA (q2) rfl rfl rfl ?_ | refine zcA (q3) rfl rfl rfl ?_)
          refine ⟨(i + 1, false, w + (osl t)[i] * (osl s.items)[i].width), ?hI14, ?hM14, Fgt.head (Nat.zero_le 2) (false :: true :: true :: true :: false :: false :: false :: false :: false :: true :: true :: true :: false :: false :: false :: false :: false :: false :: false :: false :: false :: false :: false :: false :: false :: false :: false :: false :: false :: false :: false :: false :: false :: false :: false :: false :: false :: false :: false :: false :: false :: false :: false :: false :: false :: false :: false :: false :: false :: false :: false :: false :: false :: false :: false :: true :: true :: true :: []) ?hT14 ?hH14⟩
          case hT14 => first | (simp (disch := omega) only [hds, liveT, cleanAV, cleanCell, clean1, cleanBlk, reduceIte, Int.reduceSub, Int.reduceAdd, Int.reduceNeg]; done) | rfl
          case hH14 => first | (simp (disch := omega) only [hds, liveT, cleanAV, cleanCell, clean1, cleanBlk, reduceIte, Int.reduceSub, Int.reduceAdd, Int.reduceNeg]; done) | rfl
          · dsimp only; exact ⟨hlt, hks.symm, (by intro h; cases h), by omega, by omega⟩
          · dsimp only; omega
        · have hmw : min (osl ws).length (i + 1) = min (osl ws).length i := by omega
          repeat (first | (with_reducible first | refine Way.imp ?_ | refine blk_o rfl ?_) | ((with_reducible refine WayR.imp (fun K hK => ?_)); simp (disch := first | omega | (simp only [dls]; omega)) only [std, reduceIte, reduceCtorEq, Int.reduceToNat, Nat.reduceAdd, Nat.reduceSub, Nat.reduceMul, Int.reduceAdd, Int.reduceSub, Int.reduceMul, Int.reduceNeg, fU, fI, fR, fItm, m1, m2, m3, m3']; subst hK))
          refine ⟨(i + 1, false, w + (osl t)[i] * (osl s.items)[i].width), ?hI15, ?hM15, Fgt.head (Nat.zero_le 2) (false :: true :: true :: true :: false :: false :: false :: false :: false :: true :: true :: true :: false :: false :: false :: false :: false :: false :: false :: false :: false :: false :: false :: false :: false :: false :: false :: false :: false :: false :: false :: false :: false :: false :: false :: false :: false :: false :: false :: false :: false :: false :: false :: false :: false :: false :: false :: false :: false :: false :: false :: false :: false :: false :: false :: true :: true :: true :: []) ?hT15 ?hH15⟩
          case hT15 => first | (simp (disch := omega) only [hds, liveT, cleanAV, cleanCell, clean1, cleanBlk, reduceIte, Int.reduceSub, Int.reduceAdd, Int.reduceNeg, hmw]; done) | rfl
          case hH15 => first | (simp (disch := omega) only [hds, liveT, cleanAV, cleanCell, clean1, cleanBlk, reduceIte, Int.reduceSub, Int.reduceAdd, Int.reduceNeg, hmw]; done) | rfl
          · dsimp only; exact ⟨hlt, hks.symm, (by intro h; cases h), by omega, by omega⟩
          · dsimp only; omega
    · have m3 : (if (osl t)[i] < (0 : Int) then (0 : Int) else (osl t)[i]) = 0 := if_pos (by omega)
      have m3' : (if (0 : Int) < (osl t)[i] then (osl t)[i] else (0 : Int)) = 0 := if_neg (by omega)
      rw [decide_eq_false h1, Bool.false_and] at hok
      rw [hok] at hks
      by_cases hlw : i < (osl ws).length
      · obtain ⟨q1, q2, q3⟩ := hstep i hlt hlw
        repeat (first | (with_reducible first | refine Way.imp ?_ | refine blk_o rfl ?_) | ((with_reducible refine WayR.imp (fun K hK => ?_)); simp (disch := first | omega | (simp only [dls]; omega)) only [std, reduceIte, reduceCtorEq, Int.reduceToNat, Nat.reduceAdd, Nat.reduceSub, Nat.reduceMul, Int.reduceAdd, Int.reduceSub, Int.reduceMul, Int.reduceNeg, fU, fI, fR, fItm, m1, m2, m3, m3', Int.zero_mul, Int.add_zero]; subst hK) | refine zcA (q1) rfl rfl rfl ?_ | refine zcA (q2) rfl rfl rfl ?_ | refine zcA (q3) rfl rfl rfl ?_)
        refine ⟨(i + 1, false, w), ?hI16, ?hM16, Fgt.head (Nat.zero_le 2) (false :: true :: true :: true :: false :: false :: false :: false :: false :: true :: true :: true :: false :: false :: false :: false :: false :: false :: false :: false :: false :: false :: false :: false :: false :: false :: false :: false :: false :: false :: false :: false :: false :: false :: false :: false :: false :: false :: false :: false :: false :: false :: false :: false :: false :: false :: false :: false :: false :: false :: false :: false :: false :: false :: false :: true :: true :: true :: []) ?hT16 ?hH16⟩
        case hT16 => first | (simp (disch := omega) only [hds, liveT, cleanAV, cleanCell, clean1, cleanBlk, reduceIte, Int.reduceSub, Int.reduceAdd, Int.reduceNeg]; done) | rfl
        case hH16 => first | (simp (disch := omega) only [hds, liveT, cleanAV, cleanCell, clean1, cleanBlk, reduceIte, Int.reduceSub, Int.reduceAdd, Int.reduceNeg]; done) | rfl
        · dsimp only; exact ⟨hlt, hks.symm, (by intro h; cases h), by omega, by omega⟩
        · dsimp only; omega
      · have hmw : min (osl ws).length (i + 1) = min (osl ws).length i := by omega
        repeat (first | (with_reducible first | refine Way.imp ?_ | refine blk_o rfl ?_) | ((with_reducible refine WayR.imp (fun K hK => ?_)); simp (disch := first | omega | (simp only [dls]; omega)) only [std, reduceIte, reduceCtorEq, Int.reduceToNat, Nat.reduceAdd, Nat.reduceSub, Nat.reduceMul, Int.reduceAdd, Int.reduceSub, Int.reduceMul, Int.reduceNeg, fU, fI, fR, fItm, m1, m2, m3, m3', Int.zero_mul, Int.add_zero]; subst hK))
        refine ⟨(i + 1, false, w), ?hI17, ?hM17, Fgt.head (Nat.zero_le 2) (false :: true :: true :: true :: false :: false :: false :: false :: false :: true :: true :: true :: false :: false :: false :: false :: false :: false :: false :: false :: false :: false :: false :: false :: false :: false :: false :: false :: false :: false :: false :: false :: false :: false :: false :: false :: false :: false :: false :: false :: false :: false :: false :: false :: false :: false :: false :: false :: false :: false :: false :: false :: false :: false :: false :: true :: true :: true :: []) ?hT17 ?hH17⟩
        case hT17 => first | (simp (disch := omega) only [hds, liveT, cleanAV, cleanCell, clean1, cleanBlk, reduceIte, Int.reduceSub, Int.reduceAdd, Int.reduceNeg, hmw]; done) | rfl
        case hH17 => first | (simp (disch := omega) only [hds, liveT, cleanAV, cleanCell, clean1, cleanBlk, reduceIte, Int.reduceSub, Int.reduceAdd, Int.reduceNeg, hmw]; done) | rfl
        · dsimp only; exact ⟨hlt, hks.symm, (by intro h; cases h), by omega, by omega⟩
        · dsimp only; omega

end Go.Proofs.Ytdhkdnmefeeclaa
