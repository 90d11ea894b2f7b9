/- The law PatternKeeps: the walk. -/
import Derived.Test.YtdhkdnmefeeclaaDoorUD
set_option linter.unusedSimpArgs false
set_option linter.unusedVariables false
set_option linter.unnecessarySimpa false
set_option linter.unusedSimpArgs false
set_option linter.unusedVariables false
set_option maxRecDepth 100000
set_option maxHeartbeats 4000000
namespace Go.Proofs.YtdhkdnmefeeclaaDoor
open Go Go.Am Go.Proofs Go.RowKit Go.Off

theorem rightRl_of (l : RL) : rightRl (rowO (osl l)) = rightRl l := by
  unfold rightRl rlBad rlAt
  rw [osl_rowO]

abbrev c7 : CC := (.seq (.reg [⟨(some 4), none, (.mv (.const (.bool false)))⟩]) (.seq (.seq (.reg [⟨(some 5), none, (.mv (.tmp 0))⟩, ⟨(some 6), none, (.len false (.tmp 5))⟩, ⟨(some 7), none, (.bin .gtr (.tmp 6) (.const (.int .i64 (300))))⟩]) (.cond (.tmp 7) (.seq (.reg [⟨(some 8), none, (.callf (.func 29) [])⟩, ⟨(some 4), none, (.mv (.tmp 8))⟩]) .ret) .skip)) (.seq (.reg [⟨(some 9), none, (.mv (.tmp 0))⟩, ⟨(some 10), none, (.callf (.func 30) [(.tmp 9)])⟩, ⟨(some 11), none, (.mv (.tmp 0))⟩, ⟨(some 12), none, (.callf (.func 32) [(.tmp 11)])⟩, ⟨(some 13), none, (.callf (.func 31) [(.tmp 12)])⟩, ⟨(some 14), none, (.beq false (.tmp 10) (.tmp 13))⟩, ⟨(some 15), none, (.mv (.tmp 14))⟩, ⟨(some 16), (some (15, true)), (.mv (.tmp 0))⟩, ⟨(some 17), (some (15, true)), (.mv (.tmp 1))⟩, ⟨(some 18), (some (15, true)), (.callf (.func 33) [(.tmp 16), (.tmp 17)])⟩, ⟨(some 19), (some (15, true)), (.mv (.tmp 0))⟩, ⟨(some 20), (some (15, true)), (.callf (.func 32) [(.tmp 19)])⟩, ⟨(some 21), (some (15, true)), (.mv (.tmp 1))⟩, ⟨(some 22), (some (15, true)), (.callf (.func 34) [(.tmp 20), (.tmp 21)])⟩, ⟨(some 23), (some (15, true)), (.beq false (.tmp 18) (.tmp 22))⟩, ⟨(some 24), none, (.pick (.tmp 15) (.tmp 23) (.const (.bool false)))⟩, ⟨(some 25), none, (.mv (.tmp 24))⟩, ⟨(some 26), (some (25, true)), (.callf (.func 29) [])⟩, ⟨(some 27), none, (.pick (.tmp 25) (.tmp 26) (.const (.bool false)))⟩, ⟨(some 4), none, (.mv (.tmp 27))⟩]) .ret)))
theorem cc7 : ccode Tryd.prog [] (Tryd.f7.body.getD .skip) = some c7 := by kernel_rfl
theorem body7 : Tryd.f7.body = some (Tryd.f7.body.getD .skip) := rfl

theorem patternKeeps_C (l : RL) (k : Int) (hk : k ≤ 9223372036854775807) : PureC Tryd.prog 7 [aRl l, aI k] (.ret (aB true)) := by
  have hw := awake18_C
  have h1 := pright_C l
  by_cases hl : (osl l).length ≤ 300
  · have hf := lof18_C l (by omega)
    have h2 := rright18_C (rowO (osl l)) (by rw [osl_rowO]; omega)
    have h3 := keeps_C l k hk
    have h4 := keeps18_C (rowO (osl l)) k hk (by rw [osl_rowO]; omega)
    rw [rightRl_of] at h2
    rw [keeps_of] at h4
    generalize rowO (osl l) = l2 at *
    generalize keepsB l k = b1 at *
    generalize rightRl l = b2 at *
    refine pureC_of (rs := [(RV.tmp 4)]) Tryd.func7 (fun a w => Tryd.call7 a w) body7 cc7 (by kernel_rfl) ?_
    rw [Tryd.ntmps7]
    simp only [frs, Nat.reduceAdd, Nat.reduceSub]
    repeat (first | (with_reducible first | refine Way.imp ?_ | refine blk_o rfl ?_) | ((with_reducible refine WayR.imp (fun K hK => ?_)); simp (disch := first | omega | (simp only [dls]; omega)) only [std, reduceIte, reduceCtorEq, Int.reduceToNat, Nat.reduceAdd, Nat.reduceSub, Nat.reduceMul, Int.reduceAdd, Int.reduceSub, Int.reduceMul, Int.reduceNeg, fU, hl, show ¬ (300 < (osl l).length) from by omega]; subst hK) | refine zcA (hw) rfl rfl rfl ?_ | refine zcA (h1) rfl rfl rfl ?_ | refine zcA (hf) rfl rfl rfl ?_ | refine zcA (h2) rfl rfl rfl ?_ | refine zcA (h3) rfl rfl rfl ?_ | refine zcA (h4) rfl rfl rfl ?_)
    exact ⟨_, rfl, rfl⟩
  · refine pureC_of (rs := [(RV.tmp 4)]) Tryd.func7 (fun a w => Tryd.call7 a w) body7 cc7 (by kernel_rfl) ?_
    rw [Tryd.ntmps7]
    simp only [frs, Nat.reduceAdd, Nat.reduceSub]
    repeat (first | (with_reducible first | refine Way.imp ?_ | refine blk_o rfl ?_) | ((with_reducible refine WayR.imp (fun K hK => ?_)); simp (disch := first | omega | (simp only [dls]; omega)) only [std, reduceIte, reduceCtorEq, Int.reduceToNat, Nat.reduceAdd, Nat.reduceSub, Nat.reduceMul, Int.reduceAdd, Int.reduceSub, Int.reduceMul, Int.reduceNeg, fU, hl, show (300 < (osl l).length) from by omega]; subst hK) | refine zcA (hw) rfl rfl rfl ?_)
    exact ⟨_, rfl, rfl⟩

end Go.Proofs.YtdhkdnmefeeclaaDoor
