/- The law PatternAll: the walk. -/
import Derived.Test.YtdhkdnmefeeclaaDoorUD
set_option linter.unusedSimpArgs false
set_option linter.unusedVariables false
set_option linter.unnecessarySimpa false
set_option linter.unusedSimpArgs false
set_option linter.unusedVariables false
set_option maxRecDepth 100000
set_option maxHeartbeats 4000000
namespace Go.Proofs.YtdhkdnmefeeclaaDoor
open Go Go.Am Go.Proofs Go.RowKit Go.Off

abbrev c8_k1 : CC := (.seq (.reg [⟨(some 47), none, (.callf (.func 29) [])⟩, ⟨(some 6), none, (.mv (.tmp 47))⟩]) .ret)
abbrev c8_b1 : CC := (.seq (.reg [⟨(some 35), none, (.bin .lss (.tmp 34) (.tmp 33))⟩]) (.seq (.cond (.tmp 35) .skip (.exit 0)) (.seq (.block 1 (.seq (.reg [⟨(some 36), none, (.mv (.tmp 34))⟩, ⟨(some 9), none, (.mv (.tmp 36))⟩]) (.seq (.reg [⟨(some 37), none, (.mv (.tmp 7))⟩, ⟨(some 38), none, (.mv (.tmp 9))⟩, ⟨(some 39), none, (.iaddr 1 none (.tmp 37) (.tmp 38))⟩, ⟨(some 40), none, (.load 1 false (.tmp 39))⟩, ⟨(some 41), none, (.mv (.tmp 8))⟩, ⟨(some 42), none, (.mv (.tmp 9))⟩, ⟨(some 43), none, (.iaddr 1 none (.tmp 41) (.tmp 42))⟩, ⟨(some 44), none, (.load 1 false (.tmp 43))⟩, ⟨(some 45), none, (.bin .neq (.tmp 40) (.tmp 44))⟩]) (.cond (.tmp 45) (.seq (.reg [⟨(some 6), none, (.mv (.const (.bool false)))⟩]) .ret) .skip)))) (.reg [⟨(some 46), none, (.bin .add (.tmp 34) (.const (.int .i64 (1))))⟩, ⟨(some 34), none, (.mv (.tmp 46))⟩]))))
abbrev c8 : CC := (.seq (.reg [⟨(some 6), none, (.mv (.const (.bool false)))⟩]) (.seq (.seq (.reg [⟨(some 10), none, (.mv (.tmp 1))⟩, ⟨(some 11), none, (.len false (.tmp 10))⟩, ⟨(some 12), none, (.bin .gtr (.tmp 11) (.const (.int .i64 (8))))⟩, ⟨(some 13), none, (.mv (.tmp 12))⟩, ⟨(some 14), (some (13, false)), (.mv (.tmp 2))⟩, ⟨(some 15), (some (13, false)), (.len false (.tmp 14))⟩, ⟨(some 16), (some (13, false)), (.bin .gtr (.tmp 15) (.const (.int .i64 (20))))⟩, ⟨(some 17), none, (.pick (.tmp 13) (.const (.bool true)) (.tmp 16))⟩]) (.cond (.tmp 17) (.seq (.reg [⟨(some 18), none, (.callf (.func 29) [])⟩, ⟨(some 6), none, (.mv (.tmp 18))⟩]) .ret) .skip)) (.seq (.reg [⟨(some 19), none, (.mv (.tmp 0))⟩, ⟨(some 20), none, (.mv (.tmp 1))⟩, ⟨(some 21), none, (.mv (.tmp 2))⟩, ⟨(some 22), none, (.callf (.func 35) [(.tmp 19), (.tmp 20), (.tmp 21)])⟩, ⟨(some 7), none, (.mv (.tmp 22))⟩]) (.seq (.reg [⟨(some 23), none, (.mv (.tmp 0))⟩, ⟨(some 24), none, (.mv (.tmp 1))⟩, ⟨(some 25), none, (.mv (.tmp 2))⟩, ⟨(some 26), none, (.callf (.func 36) [(.tmp 23), (.tmp 24), (.tmp 25)])⟩, ⟨(some 8), none, (.mv (.tmp 26))⟩]) (.seq (.seq (.reg [⟨(some 27), none, (.mv (.tmp 7))⟩, ⟨(some 28), none, (.len false (.tmp 27))⟩, ⟨(some 29), none, (.mv (.tmp 8))⟩, ⟨(some 30), none, (.len false (.tmp 29))⟩, ⟨(some 31), none, (.bin .neq (.tmp 28) (.tmp 30))⟩]) (.cond (.tmp 31) (.seq (.reg [⟨(some 6), none, (.mv (.const (.bool false)))⟩]) .ret) .skip)) (.seq (.seq (.reg [⟨(some 32), none, (.mv (.tmp 7))⟩, ⟨(some 33), none, (.len false (.tmp 32))⟩, ⟨(some 34), none, (.mv (.const (.int .i64 (0))))⟩]) (.block 0 (.loop c8_b1))) c8_k1))))))
theorem cc8 : ccode Tryd.prog [] (Tryd.f8.body.getD .skip) = some c8 := by kernel_rfl
theorem body8 : Tryd.f8.body = some (Tryd.f8.body.getD .skip) := rfl

theorem patternAll_C (roll : Int) (l : WI) (r : RL) : PureC Tryd.prog 8 [aI roll, aWs l, aRl r] (.ret (aB true)) := by
  have hw := awake18_C
  by_cases h8 : (osl l).length ≤ 8
  · by_cases h20 : (osl r).length ≤ 20
    · have h1 := all_C roll l r
      have h2 := patterns_C roll l r (by omega)
      have hlen : (osl (allV roll l r)).length ≤ 4096 := by rw [osl_allV]; unfold natI; rw [List.length_map]; exact pats_len roll l r
      generalize allV roll l r = W at *
      refine pureC_of (rs := [(RV.tmp 6)]) Tryd.func8 (fun a w => Tryd.call8 a w) body8 cc8 (by kernel_rfl) ?_
      rw [Tryd.ntmps8]
      simp only [frs, Nat.reduceAdd, Nat.reduceSub]
      repeat (first | (with_reducible first | refine Way.imp ?_ | refine blk_o rfl ?_) | ((with_reducible refine WayR.imp (fun K hK => ?_)); simp (disch := first | omega | (simp only [dls]; omega)) only [std, reduceIte, reduceCtorEq, Int.reduceToNat, Nat.reduceAdd, Nat.reduceSub, Nat.reduceMul, Int.reduceAdd, Int.reduceSub, Int.reduceMul, Int.reduceNeg, fU, h8, h20, show ¬ (8 < (osl l).length) from by omega, show ¬ (20 < (osl r).length) from by omega]; subst hK) | refine zcA (hw) rfl rfl rfl ?_ | refine zcA (h1) rfl rfl rfl ?_ | refine zcA (h2) rfl rfl rfl ?_)
      refine awp_loop (fun (zz : Nat) => ⟨(.junk :: .junk :: .junk :: .junk :: .junk :: .junk :: .junk :: aWs W :: aWs W :: .junk :: .junk :: .junk :: .junk :: .junk :: .junk :: .junk :: .junk :: .junk :: .junk :: .junk :: .junk :: .junk :: .junk :: .junk :: .junk :: .junk :: .junk :: .junk :: .junk :: .junk :: .junk :: .junk :: .junk :: aI (osl W).length :: aI zz :: .junk :: .junk :: .junk :: .junk :: .junk :: .junk :: .junk :: .junk :: .junk :: .junk :: .junk :: .junk :: .junk :: []), []⟩) (fun (zz : Nat) => zz ≤ (osl W).length) (fun (zz : Nat) => (osl W).length - zz) (0) ?hI1 (Fgt.head (Nat.le_refl _) (false :: false :: false :: false :: false :: false :: false :: true :: true :: false :: false :: false :: false :: false :: false :: false :: false :: false :: false :: false :: false :: false :: false :: false :: false :: false :: false :: false :: false :: false :: false :: false :: false :: true :: true :: []) ?hT1 ?hH1) ?hB1
      case hT1 => first | (simp (disch := omega) only [hds, liveT, cleanAV, cleanCell, clean1, cleanBlk, reduceIte, Int.reduceSub, Int.reduceAdd, Int.reduceNeg]; done) | rfl
      case hH1 => first | (simp (disch := omega) only [hds, liveT, cleanAV, cleanCell, clean1, cleanBlk, reduceIte, Int.reduceSub, Int.reduceAdd, Int.reduceNeg]; done) | rfl
      · exact Nat.zero_le _
      rintro i hi
      by_cases hie : i = (osl W).length
      · repeat (first | (with_reducible first | refine Way.imp ?_ | refine blk_o rfl ?_) | ((with_reducible refine WayR.imp (fun K hK => ?_)); simp (disch := first | omega | (simp only [dls]; omega)) only [std, reduceIte, reduceCtorEq, Int.reduceToNat, Nat.reduceAdd, Nat.reduceSub, Nat.reduceMul, Int.reduceAdd, Int.reduceSub, Int.reduceMul, Int.reduceNeg, fU]; subst hK) | refine zcA (hw) rfl rfl rfl ?_)
        exact ⟨_, rfl, rfl⟩
      · have hlt : i < (osl W).length := by omega
        repeat (first | (with_reducible first | refine Way.imp ?_ | refine blk_o rfl ?_) | ((with_reducible refine WayR.imp (fun K hK => ?_)); simp (disch := first | omega | (simp only [dls]; omega)) only [std, reduceIte, reduceCtorEq, Int.reduceToNat, Nat.reduceAdd, Nat.reduceSub, Nat.reduceMul, Int.reduceAdd, Int.reduceSub, Int.reduceMul, Int.reduceNeg, fU, fI]; subst hK))
        refine ⟨(i + 1), ?hI2, ?hM2, Fgt.head (Nat.le_refl _) (false :: false :: false :: false :: false :: false :: false :: true :: true :: false :: false :: false :: false :: false :: false :: false :: false :: false :: false :: false :: false :: false :: false :: false :: false :: false :: false :: false :: false :: false :: false :: false :: false :: true :: true :: []) ?hT2 ?hH2⟩
        case hT2 => first | (simp (disch := omega) only [hds, liveT, cleanAV, cleanCell, clean1, cleanBlk, reduceIte, Int.reduceSub, Int.reduceAdd, Int.reduceNeg]; done) | rfl
        case hH2 => first | (simp (disch := omega) only [hds, liveT, cleanAV, cleanCell, clean1, cleanBlk, reduceIte, Int.reduceSub, Int.reduceAdd, Int.reduceNeg]; done) | rfl
        · exact hlt
        · show (osl W).length - (i + 1) < (osl W).length - i; omega
    · refine pureC_of (rs := [(RV.tmp 6)]) Tryd.func8 (fun a w => Tryd.call8 a w) body8 cc8 (by kernel_rfl) ?_
      rw [Tryd.ntmps8]
      simp only [frs, Nat.reduceAdd, Nat.reduceSub]
      repeat (first | (with_reducible first | refine Way.imp ?_ | refine blk_o rfl ?_) | ((with_reducible refine WayR.imp (fun K hK => ?_)); simp (disch := first | omega | (simp only [dls]; omega)) only [std, reduceIte, reduceCtorEq, Int.reduceToNat, Nat.reduceAdd, Nat.reduceSub, Nat.reduceMul, Int.reduceAdd, Int.reduceSub, Int.reduceMul, Int.reduceNeg, fU, h8, h20, show ¬ (8 < (osl l).length) from by omega, show (20 < (osl r).length) from by omega]; subst hK) | refine zcA (hw) rfl rfl rfl ?_)
      exact ⟨_, rfl, rfl⟩
  · refine pureC_of (rs := [(RV.tmp 6)]) Tryd.func8 (fun a w => Tryd.call8 a w) body8 cc8 (by kernel_rfl) ?_
    rw [Tryd.ntmps8]
    simp only [frs, Nat.reduceAdd, Nat.reduceSub]
    repeat (first | (with_reducible first | refine Way.imp ?_ | refine blk_o rfl ?_) | ((with_reducible refine WayR.imp (fun K hK => ?_)); simp (disch := first | omega | (simp only [dls]; omega)) only [std, reduceIte, reduceCtorEq, Int.reduceToNat, Nat.reduceAdd, Nat.reduceSub, Nat.reduceMul, Int.reduceAdd, Int.reduceSub, Int.reduceMul, Int.reduceNeg, fU, h8, show (8 < (osl l).length) from by omega]; subst hK) | refine zcA (hw) rfl rfl rfl ?_)
    exact ⟨_, rfl, rfl⟩

end Go.Proofs.YtdhkdnmefeeclaaDoor
