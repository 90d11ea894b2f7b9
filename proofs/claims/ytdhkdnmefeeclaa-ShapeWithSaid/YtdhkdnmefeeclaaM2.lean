/- Walks of lin: Rank, Apply. -/
import Derived.Test.YtdhkdnmefeeclaaM1
import Derived.Test.YtdhkdnmefeeclaaV2
set_option linter.unusedSimpArgs false
set_option linter.unusedVariables false
set_option linter.unnecessarySimpa false
set_option linter.unusedSimpArgs false
set_option linter.unusedVariables false
set_option maxRecDepth 100000
set_option maxHeartbeats 4000000
namespace Go.Proofs.Ytdhkdnmefeeclaa
open Go Go.Am Go.Proofs Go.RowKit Go.Off

abbrev c58 : CC := (.seq (.reg [⟨(some 2), none, (.mv (.const (.int .i64 (0))))⟩]) (.seq (.reg [⟨(some 6), none, (.mv (.tmp 0))⟩, ⟨(some 7), none, (.callf (.func 56) [(.tmp 6)])⟩, ⟨(some 5), none, (.mv (.tmp 7))⟩, ⟨(some 8), none, (.ext (.tmp 5) 0)⟩, ⟨(some 9), none, (.ext (.tmp 5) 1)⟩, ⟨(some 3), none, (.mv (.tmp 8))⟩, ⟨(some 4), none, (.mv (.tmp 9))⟩]) (.seq (.reg [⟨(some 10), none, (.mv (.tmp 4))⟩, ⟨(some 11), none, (.len false (.tmp 10))⟩, ⟨(some 2), none, (.mv (.tmp 11))⟩]) .ret)))
theorem cc58 : ccode Try.prog [] (Try.f58.body.getD .skip) = some c58 := by kernel_rfl
theorem body58 : Try.f58.body = some (Try.f58.body.getD .skip) := rfl

def rankQ (m : MM) : Nat := if okM m then (redTo (qM m) (cols m)).2.length else 0
theorem rank_C (m : MM) (n L : Nat) (hm : FitsM m n L) (hn : n ≤ 1000000) (hL : 1 ≤ L) (hB : 4 ^ (osl m).length * (L + 1) ≤ 1000000) :
    PureC Try.prog 58 [aM m] (.ret (aI (rankQ m : Nat))) := by
  unfold rankQ
  by_cases hk : okM m = true
  · have hr := reduce_C m n L hm hn hL hk hB
    rw [if_pos hk]
    have hl : ((osl (rowO (intsN (redTo (qM m) (cols m)).2))).length : Nat) = (redTo (qM m) (cols m)).2.length := by rw [osl_rowO, intsN_length]
    generalize (redTo (qM m) (cols m)) = S at *
    refine pureC_of (rs := [(RV.tmp 2)]) Try.func58 (fun a w => Try.call58 a w) body58 cc58 (by kernel_rfl) ?_
    rw [Try.ntmps58]
    simp only [frs, Nat.reduceAdd, Nat.reduceSub]
    repeat (first | (with_reducible first | refine Way.imp ?_ | refine blk_o rfl ?_) | ((with_reducible refine WayR.imp (fun K hK => ?_)); simp (disch := first | omega | (simp only [dls]; omega)) only [std, reduceIte, reduceCtorEq, Int.reduceToNat, Nat.reduceAdd, Nat.reduceSub, Nat.reduceMul, Int.reduceAdd, Int.reduceSub, Int.reduceMul, Int.reduceNeg, fU, hl]; subst hK) | refine zcA (hr) rfl rfl rfl ?_)
    exact ⟨_, rfl, rfl⟩
  · have hk' : okM m = false := by simpa using hk
    have hr := reduce_no m (by have := hm.1; omega) hk'
    rw [if_neg hk]
    refine pureC_of (rs := [(RV.tmp 2)]) Try.func58 (fun a w => Try.call58 a w) body58 cc58 (by kernel_rfl) ?_
    rw [Try.ntmps58]
    simp only [frs, Nat.reduceAdd, Nat.reduceSub]
    repeat (first | (with_reducible first | refine Way.imp ?_ | refine blk_o rfl ?_) | ((with_reducible refine WayR.imp (fun K hK => ?_)); simp (disch := first | omega | (simp only [dls]; omega)) only [std, reduceIte, reduceCtorEq, Int.reduceToNat, Nat.reduceAdd, Nat.reduceSub, Nat.reduceMul, Int.reduceAdd, Int.reduceSub, Int.reduceMul, Int.reduceNeg, fU]; subst hK) | refine zcA (hr) rfl rfl rfl ?_)
    exact ⟨_, rfl, rfl⟩

/-- A matrix applied to a row. -/
def applyQ (m : MM) (x : VV) : List Rat := (osl m).map fun v => dotV v x

abbrev c64_k1 : CC := (.seq (.reg [⟨(some 44), none, (.mv (.tmp 9))⟩, ⟨(some 4), none, (.mv (.tmp 44))⟩, ⟨(some 5), none, (.mv (.const (.int .i64 (0))))⟩]) .ret)
abbrev c64_b1 : CC := (.seq (.reg [⟨(some 34), none, (.bin .lss (.tmp 33) (.tmp 32))⟩]) (.seq (.cond (.tmp 34) .skip (.exit 0)) (.seq (.block 1 (.seq (.reg [⟨(some 35), none, (.iaddr 1 none (.tmp 31) (.tmp 33))⟩, ⟨(some 36), none, (.load 1 false (.tmp 35))⟩, ⟨(some 11), none, (.mv (.tmp 36))⟩]) (.reg [⟨(some 37), none, (.mv (.tmp 9))⟩, ⟨(some 38), none, (.mv (.tmp 11))⟩, ⟨(some 39), none, (.mv (.tmp 1))⟩, ⟨(some 40), none, (.callf (.func 41) [(.tmp 38), (.tmp 39)])⟩, ⟨(some 41), none, (.mkrow 40 3 [(.tmp 40)])⟩, ⟨(some 42), none, (.append 40 3 56 (.tmp 37) (.tmp 41))⟩, ⟨(some 9), none, (.mv (.tmp 42))⟩]))) (.reg [⟨(some 43), none, (.bin .add (.tmp 33) (.const (.int .i64 (1))))⟩, ⟨(some 33), none, (.mv (.tmp 43))⟩]))))
abbrev c64 : CC := (.seq (.reg [⟨(some 4), none, (.mv (.const (.slice none 0 0)))⟩, ⟨(some 5), none, (.mv (.const (.int .i64 (0))))⟩]) (.seq (.reg [⟨(some 13), none, (.mv (.tmp 0))⟩, ⟨(some 14), none, (.callf (.func 113) [(.tmp 13)])⟩, ⟨(some 12), none, (.mv (.tmp 14))⟩, ⟨(some 15), none, (.ext (.tmp 12) 0)⟩, ⟨(some 16), none, (.ext (.tmp 12) 1)⟩, ⟨(some 17), none, (.ext (.tmp 12) 2)⟩, ⟨(some 6), none, (.mv (.tmp 15))⟩, ⟨(some 7), none, (.mv (.tmp 16))⟩, ⟨(some 8), none, (.mv (.tmp 17))⟩]) (.seq (.seq (.reg [⟨(some 18), none, (.mv (.tmp 8))⟩, ⟨(some 19), none, (.un .not (.tmp 18))⟩, ⟨(some 20), none, (.mv (.tmp 19))⟩, ⟨(some 21), (some (20, false)), (.mv (.tmp 0))⟩, ⟨(some 22), (some (20, false)), (.len false (.tmp 21))⟩, ⟨(some 23), (some (20, false)), (.bin .gtr (.tmp 22) (.const (.int .i64 (0))))⟩, ⟨(some 24), (some (20, false)), (.mv (.tmp 23))⟩, ⟨(some 25), (some (24, true)), (.mv (.tmp 7))⟩, ⟨(some 26), (some (24, true)), (.mv (.tmp 1))⟩, ⟨(some 27), (some (24, true)), (.len false (.tmp 26))⟩, ⟨(some 28), (some (24, true)), (.bin .neq (.tmp 25) (.tmp 27))⟩, ⟨(some 29), (some (20, false)), (.pick (.tmp 24) (.tmp 28) (.const (.bool false)))⟩, ⟨(some 30), none, (.pick (.tmp 20) (.const (.bool true)) (.tmp 29))⟩]) (.cond (.tmp 30) (.seq (.reg [⟨(some 4), none, (.mv (.const (.slice none 0 0)))⟩, ⟨(some 5), none, (.mv (.const (.int .i64 (7))))⟩]) .ret) .skip)) (.seq (.reg [⟨(some 9), none, (.mv (.const (.slice none 0 0)))⟩]) (.seq (.seq (.reg [⟨(some 31), none, (.mv (.tmp 0))⟩, ⟨(some 32), none, (.len false (.tmp 31))⟩, ⟨(some 33), none, (.mv (.const (.int .i64 (0))))⟩]) (.block 0 (.loop c64_b1))) c64_k1)))))
theorem cc64 : ccode Try.prog [] (Try.f64.body.getD .skip) = some c64 := by kernel_rfl
theorem body64 : Try.f64.body = some (Try.f64.body.getD .skip) := rfl

theorem apply_no (m : MM) (x : VV) (hm : (osl m).length ≤ 1000000) (hx : (osl x).length ≤ 1000000) (hk : okM m = false ∨ (osl m).length ≠ 0 ∧ cols m ≠ (osl x).length) : PureC Try.prog 64 [aM m, aV x] (.ret (.tup [aV none, aI 7])) := by
  have hs := sides_C m hm
  unfold sidesV at hs
  by_cases hk' : okM m = true
  · rw [hk', if_pos rfl] at hs
    obtain ⟨h1, h2⟩ := hk.resolve_left (by rw [hk']; simp)
    have h3 : 0 < (osl m).length := by omega
    have h4 : ((cols m : Nat) : Int) ≠ ((osl x).length : Int) := by omega
    refine pureC_of (rs := [(RV.tmp 4), (RV.tmp 5)]) Try.func64 (fun a w => Try.call64 a w) body64 cc64 (by kernel_rfl) ?_
    rw [Try.ntmps64]
    simp only [frs, Nat.reduceAdd, Nat.reduceSub]
    repeat (first | (with_reducible first | refine Way.imp ?_ | refine blk_o rfl ?_) | ((with_reducible refine WayR.imp (fun K hK => ?_)); simp (disch := first | omega | (simp only [dls]; omega)) only [std, reduceIte, reduceCtorEq, Int.reduceToNat, Nat.reduceAdd, Nat.reduceSub, Nat.reduceMul, Int.reduceAdd, Int.reduceSub, Int.reduceMul, Int.reduceNeg, fU]; subst hK) | refine zcA (hs) rfl rfl rfl ?_)
    exact ⟨_, rfl, rfl⟩
  · rw [show okM m = false from by simpa using hk', if_neg (by simp)] at hs
    refine pureC_of (rs := [(RV.tmp 4), (RV.tmp 5)]) Try.func64 (fun a w => Try.call64 a w) body64 cc64 (by kernel_rfl) ?_
    rw [Try.ntmps64]
    simp only [frs, Nat.reduceAdd, Nat.reduceSub]
    repeat (first | (with_reducible first | refine Way.imp ?_ | refine blk_o rfl ?_) | ((with_reducible refine WayR.imp (fun K hK => ?_)); simp (disch := first | omega | (simp only [dls]; omega)) only [std, reduceIte, reduceCtorEq, Int.reduceToNat, Nat.reduceAdd, Nat.reduceSub, Nat.reduceMul, Int.reduceAdd, Int.reduceSub, Int.reduceMul, Int.reduceNeg, fU]; subst hK) | refine zcA (hs) rfl rfl rfl ?_)
    exact ⟨_, rfl, rfl⟩

theorem apply_yes (m : MM) (x : VV) (n L : Nat) (hm : FitsM m n L) (hx : FitsV x n L) (hn : n ≤ 1000) (hL : 1 ≤ L) (hL2 : L ≤ 2000) (hk : okM m = true) (hc : (osl m).length = 0 ∨ cols m = (osl x).length) :
    PureC Try.prog 64 [aM m, aV x] (.ret (.tup [aV (rowO ((applyQ m x).map rawQ)), aI 0])) := by
  have hm1 := hm.1
  have hx1 := hx.1
  have hs := sides_C m (by omega)
  unfold sidesV at hs
  rw [hk, if_pos rfl] at hs
  have main : ∀ (Z : Nat), cols m = Z → ((osl m).length = 0 ∨ Z = (osl x).length) → PureC Try.prog 64 [aM m, aV x] (.ret (.tup [aV (rowO ((applyQ m x).map rawQ)), aI 0])) := by
    intro Z hZ hc
    rw [hZ] at hs
    refine pureC_of (rs := [(RV.tmp 4), (RV.tmp 5)]) Try.func64 (fun a w => Try.call64 a w) body64 cc64 (by kernel_rfl) ?_
    rw [Try.ntmps64]
    simp only [frs, Nat.reduceAdd, Nat.reduceSub]
    by_cases h0 : (osl m).length = 0
    · have hz : applyQ m x = [] := by unfold applyQ; rw [List.length_eq_zero_iff.1 h0]; rfl
      rw [hz]
      repeat (first | (with_reducible first | refine Way.imp ?_ | refine blk_o rfl ?_) | ((with_reducible refine WayR.imp (fun K hK => ?_)); simp (disch := first | omega | (simp only [dls]; omega)) only [std, reduceIte, reduceCtorEq, Int.reduceToNat, Nat.reduceAdd, Nat.reduceSub, Nat.reduceMul, Int.reduceAdd, Int.reduceSub, Int.reduceMul, Int.reduceNeg, fU, h0]; subst hK) | refine zcA (hs) rfl rfl rfl ?_)
      refine awp_loop (fun (zz : Nat) => ⟨(.junk :: .junk :: .junk :: .junk :: .junk :: .junk :: .junk :: .junk :: .junk :: .one (.c (.val (.slice none 0 0))) :: .junk :: .junk :: .junk :: .junk :: .junk :: .junk :: .junk :: .junk :: .junk :: .junk :: .junk :: .junk :: .junk :: .junk :: .junk :: .junk :: .junk :: .junk :: .junk :: .junk :: .junk :: .junk :: aI 0 :: aI zz :: .junk :: .junk :: .junk :: .junk :: .junk :: .junk :: .junk :: .junk :: .junk :: .junk :: .junk :: []), []⟩) (fun (zz : Nat) => zz = 0) (fun (zz : Nat) => 0) (0) ?hI1 (Fgt.head (Nat.le_refl _) (false :: false :: false :: false :: false :: false :: false :: false :: false :: true :: false :: false :: false :: false :: false :: false :: false :: false :: false :: false :: false :: false :: false :: false :: false :: false :: false :: false :: false :: false :: false :: false :: true :: true :: []) ?hT1 ?hH1) ?hB1
      case hT1 => first | (simp (disch := omega) only [hds, liveT, cleanAV, cleanCell, clean1, cleanBlk, reduceIte, Int.reduceSub, Int.reduceAdd, Int.reduceNeg]; done) | rfl
      case hH1 => first | (simp (disch := omega) only [hds, liveT, cleanAV, cleanCell, clean1, cleanBlk, reduceIte, Int.reduceSub, Int.reduceAdd, Int.reduceNeg]; done) | rfl
      · rfl
      rintro i hi
      rw [hi]
      repeat (first | (with_reducible first | refine Way.imp ?_ | refine blk_o rfl ?_) | ((with_reducible refine WayR.imp (fun K hK => ?_)); simp (disch := first | omega | (simp only [dls]; omega)) only [std, reduceIte, reduceCtorEq, Int.reduceToNat, Nat.reduceAdd, Nat.reduceSub, Nat.reduceMul, Int.reduceAdd, Int.reduceSub, Int.reduceMul, Int.reduceNeg, fU]; subst hK))
      exact ⟨_, rfl, rfl⟩
    · have hZx : Z = (osl x).length := hc.resolve_left h0
      repeat (first | (with_reducible first | refine Way.imp ?_ | refine blk_o rfl ?_) | ((with_reducible refine WayR.imp (fun K hK => ?_)); simp (disch := first | omega | (simp only [dls]; omega)) only [std, reduceIte, reduceCtorEq, Int.reduceToNat, Nat.reduceAdd, Nat.reduceSub, Nat.reduceMul, Int.reduceAdd, Int.reduceSub, Int.reduceMul, Int.reduceNeg, fU, hZx]; subst hK) | refine zcA (hs) rfl rfl rfl ?_)
      refine AWp.fgt ?_ (Fgt.openNil (i := 9) rfl 40 3)
      simp only [List.set_cons_succ, List.set_cons_zero, List.length_nil, List.length_cons, List.nil_append, List.cons_append, Nat.reduceAdd]
      refine awp_loop (fun (zz : Nat × (List RR) × Nat × Bool) => ⟨(.junk :: aV x :: .junk :: .junk :: .junk :: .junk :: .junk :: .junk :: .junk :: .one (.own 0 zz.2.2.1) :: .junk :: .junk :: .junk :: .junk :: .junk :: .junk :: .junk :: .junk :: .junk :: .junk :: .junk :: .junk :: .junk :: .junk :: .junk :: .junk :: .junk :: .junk :: .junk :: .junk :: .junk :: aM m :: aI (osl m).length :: aI zz.1 :: .junk :: .junk :: .junk :: .junk :: .junk :: .junk :: .junk :: .junk :: .junk :: .junk :: .junk :: []), [⟨zz.2.2.1, 40, 3, encB fR zz.2.1, true, zz.2.2.2⟩]⟩) (fun (zz : Nat × (List RR) × Nat × Bool) => zz.1 ≤ (osl m).length ∧ zz.2.1 = ((osl m).take zz.1).map (fun r => rawQ (dotV r x)) ∧ zz.2.2.2 = !zz.2.1.isEmpty) (fun (zz : Nat × (List RR) × Nat × Bool) => (osl m).length - zz.1) (0, [], 0, false) ?hI2 (Fgt.head (Nat.zero_le 1) (false :: true :: false :: false :: false :: false :: false :: false :: false :: true :: false :: false :: false :: false :: false :: false :: false :: false :: false :: false :: false :: false :: false :: false :: false :: false :: false :: false :: false :: false :: false :: true :: true :: true :: []) ?hT2 ?hH2) ?hB2
      case hT2 => first | (simp (disch := omega) only [hds, liveT, cleanAV, cleanCell, clean1, cleanBlk, reduceIte, Int.reduceSub, Int.reduceAdd, Int.reduceNeg, encB_nil]; done) | rfl
      case hH2 => first | (simp (disch := omega) only [hds, liveT, cleanAV, cleanCell, clean1, cleanBlk, reduceIte, Int.reduceSub, Int.reduceAdd, Int.reduceNeg, encB_nil]; done) | rfl
      · dsimp only; exact ⟨by omega, rfl, rfl⟩
      rintro ⟨i, out, v, nn⟩ ⟨hi, ho, hnn⟩
      dsimp only at hi ho hnn
      by_cases him : i = (osl m).length
      · repeat (first | (with_reducible first | refine Way.imp ?_ | refine blk_o rfl ?_) | ((with_reducible refine WayR.imp (fun K hK => ?_)); simp (disch := first | omega | (simp only [dls]; omega)) only [std, reduceIte, reduceCtorEq, Int.reduceToNat, Nat.reduceAdd, Nat.reduceSub, Nat.reduceMul, Int.reduceAdd, Int.reduceSub, Int.reduceMul, Int.reduceNeg, fU]; subst hK))
        refine ⟨_, rfl, ?_⟩
        have he : (applyQ m x).map rawQ = out := by
          rw [ho, him, List.take_length]; unfold applyQ; rw [List.map_map]; rfl
        rw [he]
        exact close_res2 rfl (by decide) hnn
      · have hlt : i < (osl m).length := by omega
        have hdot := dot_C (osl m)[i] x n L (hm.2 _ (List.getElem_mem hlt)) hx hn hL hL2
        have hol : out.length = i := by rw [ho, List.length_map, List.length_take]; omega
        repeat (first | (with_reducible first | refine Way.imp ?_ | refine blk_o rfl ?_) | ((with_reducible refine WayR.imp (fun K hK => ?_)); simp (disch := first | omega | (simp only [dls]; omega)) only [std, reduceIte, reduceCtorEq, Int.reduceToNat, Nat.reduceAdd, Nat.reduceSub, Nat.reduceMul, Int.reduceAdd, Int.reduceSub, Int.reduceMul, Int.reduceNeg, fU, fM]; subst hK) | refine zcA (hdot) rfl rfl rfl ?_)
        refine ⟨(i + 1, out ++ [rawQ (dotV (osl m)[i] x)], v + 1, true), ?hI3, ?hM3, Fgt.head (Nat.zero_le 1) (false :: true :: false :: false :: false :: false :: false :: false :: false :: true :: false :: false :: false :: false :: false :: false :: false :: false :: false :: false :: false :: false :: false :: false :: false :: false :: false :: false :: false :: false :: false :: true :: true :: true :: []) ?hT3 ?hH3⟩
        case hT3 => first | (simp (disch := omega) only [hds, liveT, cleanAV, cleanCell, clean1, cleanBlk, reduceIte, Int.reduceSub, Int.reduceAdd, Int.reduceNeg, encB_snoc_row, List.isEmpty_cons, Bool.or_true, Bool.not_false]; done) | rfl
        case hH3 => first | (simp (disch := omega) only [hds, liveT, cleanAV, cleanCell, clean1, cleanBlk, reduceIte, Int.reduceSub, Int.reduceAdd, Int.reduceNeg, encB_snoc_row, List.isEmpty_cons, Bool.or_true, Bool.not_false]; done) | rfl
        · dsimp only
          refine ⟨by omega, ?_, by simp⟩
          rw [ho, List.take_succ_eq_append_getElem hlt, List.map_append]
          rfl
        · dsimp only; omega
  exact main _ rfl hc

def colQ (m : MM) (k i : Nat) : List Rat := (List.range i).map fun j => qAt (mAt m j) k
def turnQ (m : MM) : QM := (List.range (cols m)).map fun k => colQ m k (osl m).length
theorem colQ_succ (m : MM) (k i : Nat) : colQ m k (i + 1) = colQ m k i ++ [qAt (mAt m i) k] := by unfold colQ; rw [List.range_succ, List.map_append]; rfl

end Go.Proofs.Ytdhkdnmefeeclaa
set_option linter.unusedSimpArgs false
set_option linter.unusedVariables false
set_option maxRecDepth 100000
set_option maxHeartbeats 4000000
namespace Go.Proofs.Ytdhkdnmefeeclaa
open Go Go.Am Go.Proofs Go.RowKit Go.Off

def lsidesV (m : MM) : AV := if rectTo m (osl m).length then .tup [aI ((osl m).length : Nat), aI (cols m : Nat), aB true] else .tup [aI 0, aI 0, aB false]

abbrev c53_k1 : CC := (.seq (.seq (.reg [⟨(some 21), none, (.mv (.tmp 0))⟩, ⟨(some 22), none, (.len false (.tmp 21))⟩, ⟨(some 23), none, (.bin .eql (.tmp 22) (.const (.int .i64 (0))))⟩]) (.cond (.tmp 23) (.seq (.reg [⟨(some 2), none, (.mv (.const (.int .i64 (0))))⟩, ⟨(some 3), none, (.mv (.const (.int .i64 (0))))⟩, ⟨(some 4), none, (.mv (.const (.bool true)))⟩]) .ret) .skip)) (.seq (.reg [⟨(some 24), none, (.mv (.tmp 0))⟩, ⟨(some 25), none, (.len false (.tmp 24))⟩, ⟨(some 26), none, (.mv (.tmp 0))⟩, ⟨(some 27), none, (.iaddr 1 none (.tmp 26) (.const (.int .i64 (0))))⟩, ⟨(some 28), none, (.load 1 false (.tmp 27))⟩, ⟨(some 29), none, (.len false (.tmp 28))⟩, ⟨(some 2), none, (.mv (.tmp 25))⟩, ⟨(some 3), none, (.mv (.tmp 29))⟩, ⟨(some 4), none, (.mv (.const (.bool true)))⟩]) .ret))
abbrev c53_b1 : CC := (.seq (.reg [⟨(some 10), none, (.bin .lss (.tmp 9) (.tmp 8))⟩]) (.seq (.cond (.tmp 10) .skip (.exit 0)) (.seq (.block 1 (.seq (.reg [⟨(some 11), none, (.iaddr 1 none (.tmp 7) (.tmp 9))⟩, ⟨(some 12), none, (.load 1 false (.tmp 11))⟩, ⟨(some 6), none, (.mv (.tmp 12))⟩]) (.seq (.reg [⟨(some 13), none, (.mv (.tmp 6))⟩, ⟨(some 14), none, (.len false (.tmp 13))⟩, ⟨(some 15), none, (.mv (.tmp 0))⟩, ⟨(some 16), none, (.iaddr 1 none (.tmp 15) (.const (.int .i64 (0))))⟩, ⟨(some 17), none, (.load 1 false (.tmp 16))⟩, ⟨(some 18), none, (.len false (.tmp 17))⟩, ⟨(some 19), none, (.bin .neq (.tmp 14) (.tmp 18))⟩]) (.cond (.tmp 19) (.seq (.reg [⟨(some 2), none, (.mv (.const (.int .i64 (0))))⟩, ⟨(some 3), none, (.mv (.const (.int .i64 (0))))⟩, ⟨(some 4), none, (.mv (.const (.bool false)))⟩]) .ret) .skip)))) (.reg [⟨(some 20), none, (.bin .add (.tmp 9) (.const (.int .i64 (1))))⟩, ⟨(some 9), none, (.mv (.tmp 20))⟩]))))
abbrev c53 : CC := (.seq (.reg [⟨(some 2), none, (.mv (.const (.int .i64 (0))))⟩, ⟨(some 3), none, (.mv (.const (.int .i64 (0))))⟩, ⟨(some 4), none, (.mv (.const (.bool false)))⟩]) (.seq (.seq (.reg [⟨(some 7), none, (.mv (.tmp 0))⟩, ⟨(some 8), none, (.len false (.tmp 7))⟩, ⟨(some 9), none, (.mv (.const (.int .i64 (0))))⟩]) (.block 0 (.loop c53_b1))) c53_k1))
theorem cc53 : ccode Try.prog [] (Try.f53.body.getD .skip) = some c53 := by kernel_rfl
theorem body53 : Try.f53.body = some (Try.f53.body.getD .skip) := rfl

theorem lsides_C (m : MM) (hm : (osl m).length ≤ 9223372036854775807) : PureC Try.prog 53 [aM m] (.ret (lsidesV m)) := by
  refine pureC_of (rs := [(RV.tmp 2), (RV.tmp 3), (RV.tmp 4)]) Try.func53 (fun a w => Try.call53 a w) body53 cc53 (by kernel_rfl) ?_
  rw [Try.ntmps53]
  simp only [frs, Nat.reduceAdd, Nat.reduceSub]
  repeat (first | (with_reducible first | refine Way.imp ?_ | refine blk_o rfl ?_) | ((with_reducible refine WayR.imp (fun K hK => ?_)); simp (disch := first | omega | (simp only [dls]; omega)) only [std, reduceIte, reduceCtorEq, Int.reduceToNat, Nat.reduceAdd, Nat.reduceSub, Nat.reduceMul, Int.reduceAdd, Int.reduceSub, Int.reduceMul, Int.reduceNeg, fU]; subst hK))
  refine awp_loop (fun (zz : Nat) => ⟨(aM m :: .junk :: .junk :: .junk :: .junk :: .junk :: .junk :: aM m :: aI (osl m).length :: aI zz :: .junk :: .junk :: .junk :: .junk :: .junk :: .junk :: .junk :: .junk :: .junk :: .junk :: .junk :: .junk :: .junk :: .junk :: .junk :: .junk :: .junk :: .junk :: .junk :: .junk :: []), []⟩) (fun (zz : Nat) => zz ≤ (osl m).length ∧ rectTo m zz = true) (fun (zz : Nat) => (osl m).length - zz) (0) ?hI1 (Fgt.head (Nat.le_refl _) [true, false, false, false, false, false, false, true, true, true] ?hT1 ?hH1) ?hB1
  case hT1 => first | (simp (disch := omega) only [hds, liveT, cleanAV, cleanCell, clean1, cleanBlk, reduceIte, Int.reduceSub, Int.reduceAdd, Int.reduceNeg]; done) | rfl
  case hH1 => first | (simp (disch := omega) only [hds, liveT, cleanAV, cleanCell, clean1, cleanBlk, reduceIte, Int.reduceSub, Int.reduceAdd, Int.reduceNeg]; done) | rfl
  · exact ⟨by omega, rfl⟩
  rintro i ⟨hi, hr⟩
  by_cases him : i = (osl m).length
  · rw [him] at hr
    by_cases h0 : (osl m).length = 0
    · have hc : cols m = 0 := by unfold cols mAt; rw [List.length_eq_zero_iff.1 h0]; rfl
      have hv : lsidesV m = .tup [aI 0, aI 0, aB true] := by
        unfold lsidesV
        rw [hr, if_pos rfl, h0, hc]
        rfl
      repeat (first | (with_reducible first | refine Way.imp ?_ | refine blk_o rfl ?_) | ((with_reducible refine WayR.imp (fun K hK => ?_)); simp (disch := first | omega | (simp only [dls]; omega)) only [std, reduceIte, reduceCtorEq, Int.reduceToNat, Nat.reduceAdd, Nat.reduceSub, Nat.reduceMul, Int.reduceAdd, Int.reduceSub, Int.reduceMul, Int.reduceNeg, fU]; subst hK))
      refine ⟨_, rfl, ?_⟩
      rw [hv]
      rfl
    · have h00 : 0 < (osl m).length := by omega
      have hc : cols m = (osl (osl m)[0]).length := by unfold cols; rw [mAt_in h00]
      have hv : lsidesV m = .tup [aI ((osl m).length : Nat), aI ((osl (osl m)[0]).length : Nat), aB true] := by
        unfold lsidesV
        rw [hr, if_pos rfl, hc]
      repeat (first | (with_reducible first | refine Way.imp ?_ | refine blk_o rfl ?_) | ((with_reducible refine WayR.imp (fun K hK => ?_)); simp (disch := first | omega | (simp only [dls]; omega)) only [std, reduceIte, reduceCtorEq, Int.reduceToNat, Nat.reduceAdd, Nat.reduceSub, Nat.reduceMul, Int.reduceAdd, Int.reduceSub, Int.reduceMul, Int.reduceNeg, fU, fM]; subst hK))
      refine ⟨_, rfl, ?_⟩
      rw [hv]
      rfl
  · have hlt : i < (osl m).length := by omega
    have h00 : 0 < (osl m).length := by omega
    have hc : cols m = (osl (osl m)[0]).length := by unfold cols; rw [mAt_in h00]
    by_cases he : (osl (osl m)[i]).length = (osl (osl m)[0]).length
    · repeat (first | (with_reducible first | refine Way.imp ?_ | refine blk_o rfl ?_) | ((with_reducible refine WayR.imp (fun K hK => ?_)); simp (disch := first | omega | (simp only [dls]; omega)) only [std, reduceIte, reduceCtorEq, Int.reduceToNat, Nat.reduceAdd, Nat.reduceSub, Nat.reduceMul, Int.reduceAdd, Int.reduceSub, Int.reduceMul, Int.reduceNeg, fU, fM, he]; subst hK))
      refine ⟨(i + 1), ?hI2, ?hM2, Fgt.head (Nat.le_refl _) [true, false, false, false, false, false, false, true, true, true] ?hT2 ?hH2⟩
      case hT2 => first | (simp (disch := omega) only [hds, liveT, cleanAV, cleanCell, clean1, cleanBlk, reduceIte, Int.reduceSub, Int.reduceAdd, Int.reduceNeg]; done) | rfl
      case hH2 => first | (simp (disch := omega) only [hds, liveT, cleanAV, cleanCell, clean1, cleanBlk, reduceIte, Int.reduceSub, Int.reduceAdd, Int.reduceNeg]; done) | rfl
      · refine ⟨by omega, ?_⟩
        rw [rectTo_succ, hr, mAt_in hlt, hc, he]
        simp
      · omega
    · have hv : lsidesV m = .tup [aI 0, aI 0, aB false] := by
        have : rectTo m (osl m).length = false := by
          cases hq : rectTo m (osl m).length with
          | false => rfl
          | true => exact (he (by rw [← mAt_in hlt, ← hc]; exact rectTo_at hq hlt)).elim
        unfold lsidesV
        rw [this]
        rfl
      repeat (first | (with_reducible first | refine Way.imp ?_ | refine blk_o rfl ?_) | ((with_reducible refine WayR.imp (fun K hK => ?_)); simp (disch := first | omega | (simp only [dls]; omega)) only [std, reduceIte, reduceCtorEq, Int.reduceToNat, Nat.reduceAdd, Nat.reduceSub, Nat.reduceMul, Int.reduceAdd, Int.reduceSub, Int.reduceMul, Int.reduceNeg, fU, fM]; subst hK))
      refine ⟨_, rfl, ?_⟩
      rw [hv]
      rfl

def fewMTo (m : MM) (k : Nat) : Bool := (List.range k).all fun i => fewB (mAt m i)
def fewM (m : MM) : Bool := fewMTo m (min (osl m).length 5) && decide ((osl m).length ≤ 4)
theorem fewMTo_succ (m : MM) (k : Nat) : fewMTo m (k + 1) = (fewMTo m k && fewB (mAt m k)) := by
  unfold fewMTo; rw [List.range_succ, List.all_append]; simp

abbrev c54_k1 : CC := (.seq (.reg [⟨(some 20), none, (.mv (.tmp 0))⟩, ⟨(some 21), none, (.len false (.tmp 20))⟩, ⟨(some 22), none, (.bin .leq (.tmp 21) (.const (.int .i64 (4))))⟩, ⟨(some 2), none, (.mv (.tmp 22))⟩]) .ret)
abbrev c54_b1 : CC := (.seq (.seq (.reg [⟨(some 4), none, (.mv (.tmp 3))⟩, ⟨(some 5), none, (.mv (.tmp 0))⟩, ⟨(some 6), none, (.len false (.tmp 5))⟩, ⟨(some 7), none, (.bin .lss (.tmp 4) (.tmp 6))⟩, ⟨(some 8), none, (.mv (.tmp 7))⟩, ⟨(some 9), (some (8, true)), (.mv (.tmp 3))⟩, ⟨(some 10), (some (8, true)), (.bin .leq (.tmp 9) (.const (.int .i64 (4))))⟩, ⟨(some 11), none, (.pick (.tmp 8) (.tmp 10) (.const (.bool false)))⟩]) (.cond (.tmp 11) .skip (.exit 0))) (.seq (.block 1 (.seq (.reg [⟨(some 14), none, (.mv (.tmp 0))⟩, ⟨(some 15), none, (.mv (.tmp 3))⟩, ⟨(some 16), none, (.iaddr 1 none (.tmp 14) (.tmp 15))⟩, ⟨(some 17), none, (.load 1 false (.tmp 16))⟩, ⟨(some 18), none, (.callf (.func 26) [(.tmp 17)])⟩, ⟨(some 19), none, (.un .not (.tmp 18))⟩]) (.cond (.tmp 19) (.seq (.reg [⟨(some 2), none, (.mv (.const (.bool false)))⟩]) .ret) .skip))) (.reg [⟨(some 12), none, (.mv (.tmp 3))⟩, ⟨(some 13), none, (.bin .add (.tmp 12) (.const (.int .i64 (1))))⟩, ⟨(some 3), none, (.mv (.tmp 13))⟩])))
abbrev c54 : CC := (.seq (.reg [⟨(some 2), none, (.mv (.const (.bool false)))⟩]) (.seq (.seq (.reg [⟨(some 3), none, (.mv (.const (.int .i64 (0))))⟩]) (.block 0 (.loop c54_b1))) c54_k1))
theorem cc54 : ccode Try.prog [] (Try.f54.body.getD .skip) = some c54 := by kernel_rfl
theorem body54 : Try.f54.body = some (Try.f54.body.getD .skip) := rfl

theorem lfew_C (m : MM) : PureC Try.prog 54 [aM m] (.ret (aB (fewM m))) := by
  refine pureC_of (rs := [(RV.tmp 2)]) Try.func54 (fun a w => Try.call54 a w) body54 cc54 (by kernel_rfl) ?_
  rw [Try.ntmps54]
  simp only [frs, Nat.reduceAdd, Nat.reduceSub]
  repeat (first | (with_reducible first | refine Way.imp ?_ | refine blk_o rfl ?_) | ((with_reducible refine WayR.imp (fun K hK => ?_)); simp (disch := first | omega | (simp only [dls]; omega)) only [std, reduceIte, reduceCtorEq, Int.reduceToNat, Nat.reduceAdd, Nat.reduceSub, Nat.reduceMul, Int.reduceAdd, Int.reduceSub, Int.reduceMul, Int.reduceNeg, fU]; subst hK))
  refine awp_loop (fun (zz : Nat) => ⟨(aM m :: .junk :: .junk :: aI zz :: .junk :: .junk :: .junk :: .junk :: .junk :: .junk :: .junk :: .junk :: .junk :: .junk :: .junk :: .junk :: .junk :: .junk :: .junk :: .junk :: .junk :: .junk :: .junk :: []), []⟩) (fun (zz : Nat) => zz ≤ min (osl m).length 5 ∧ fewMTo m zz = true) (fun (zz : Nat) => 5 - zz) (0) ?hI3 (Fgt.head (Nat.le_refl _) [true, false, false, true] ?hT3 ?hH3) ?hB3
  case hT3 => first | (simp (disch := omega) only [hds, liveT, cleanAV, cleanCell, clean1, cleanBlk, reduceIte, Int.reduceSub, Int.reduceAdd, Int.reduceNeg]; done) | rfl
  case hH3 => first | (simp (disch := omega) only [hds, liveT, cleanAV, cleanCell, clean1, cleanBlk, reduceIte, Int.reduceSub, Int.reduceAdd, Int.reduceNeg]; done) | rfl
  · exact ⟨by omega, rfl⟩
  rintro i ⟨hi, hr⟩
  by_cases him : i = min (osl m).length 5
  · have hv : fewM m = decide ((osl m).length ≤ 4) := by unfold fewM; rw [← him, hr, Bool.true_and]
    rw [hv]
    by_cases h5 : (osl m).length ≤ 4
    · have hil : i = (osl m).length := by omega
      rw [decide_eq_true h5]
      repeat (first | (with_reducible first | refine Way.imp ?_ | refine blk_o rfl ?_) | ((with_reducible refine WayR.imp (fun K hK => ?_)); simp (disch := first | omega | (simp only [dls]; omega)) only [std, reduceIte, reduceCtorEq, Int.reduceToNat, Nat.reduceAdd, Nat.reduceSub, Nat.reduceMul, Int.reduceAdd, Int.reduceSub, Int.reduceMul, Int.reduceNeg, fU]; subst hK))
      exact ⟨_, rfl, rfl⟩
    · have hi5 : i = 5 := by omega
      have hi6 : ¬ ((i : Int) ≤ 4) := by omega
      rw [decide_eq_false h5]
      by_cases h6 : (osl m).length = 5
      · have hnl : ¬ i < (osl m).length := by omega
        repeat (first | (with_reducible first | refine Way.imp ?_ | refine blk_o rfl ?_) | ((with_reducible refine WayR.imp (fun K hK => ?_)); simp (disch := first | omega | (simp only [dls]; omega)) only [std, reduceIte, reduceCtorEq, Int.reduceToNat, Nat.reduceAdd, Nat.reduceSub, Nat.reduceMul, Int.reduceAdd, Int.reduceSub, Int.reduceMul, Int.reduceNeg, fU]; subst hK))
        exact ⟨_, rfl, rfl⟩
      · have hil : i < (osl m).length := by omega
        repeat (first | (with_reducible first | refine Way.imp ?_ | refine blk_o rfl ?_) | ((with_reducible refine WayR.imp (fun K hK => ?_)); simp (disch := first | omega | (simp only [dls]; omega)) only [std, reduceIte, reduceCtorEq, Int.reduceToNat, Nat.reduceAdd, Nat.reduceSub, Nat.reduceMul, Int.reduceAdd, Int.reduceSub, Int.reduceMul, Int.reduceNeg, fU]; subst hK))
        exact ⟨_, rfl, rfl⟩
  · have hlt : i < (osl m).length := by omega
    have hi4 : (i : Int) ≤ 4 := by omega
    have hfw := few_C (osl m)[i]
    cases hf : fewB (osl m)[i] with
    | true =>
      rw [hf] at hfw
      repeat (first | (with_reducible first | refine Way.imp ?_ | refine blk_o rfl ?_) | ((with_reducible refine WayR.imp (fun K hK => ?_)); simp (disch := first | omega | (simp only [dls]; omega)) only [std, reduceIte, reduceCtorEq, Int.reduceToNat, Nat.reduceAdd, Nat.reduceSub, Nat.reduceMul, Int.reduceAdd, Int.reduceSub, Int.reduceMul, Int.reduceNeg, fU, fM]; subst hK) | refine zcA (hfw) rfl rfl rfl ?_)
      refine ⟨(i + 1), ?hI4, ?hM4, Fgt.head (Nat.le_refl _) [true, false, false, true] ?hT4 ?hH4⟩
      case hT4 => first | (simp (disch := omega) only [hds, liveT, cleanAV, cleanCell, clean1, cleanBlk, reduceIte, Int.reduceSub, Int.reduceAdd, Int.reduceNeg]; done) | rfl
      case hH4 => first | (simp (disch := omega) only [hds, liveT, cleanAV, cleanCell, clean1, cleanBlk, reduceIte, Int.reduceSub, Int.reduceAdd, Int.reduceNeg]; done) | rfl
      · refine ⟨by omega, ?_⟩
        rw [fewMTo_succ, hr, mAt_in hlt, hf]
        rfl
      · omega
    | false =>
      rw [hf] at hfw
      have hv : fewM m = false := by
        have : fewMTo m (min (osl m).length 5) = false := by
          rw [Bool.eq_false_iff]
          intro h
          have := List.all_eq_true.1 h i (List.mem_range.2 (by omega))
          rw [mAt_in hlt, hf] at this
          cases this
        unfold fewM
        rw [this, Bool.false_and]
      rw [hv]
      repeat (first | (with_reducible first | refine Way.imp ?_ | refine blk_o rfl ?_) | ((with_reducible refine WayR.imp (fun K hK => ?_)); simp (disch := first | omega | (simp only [dls]; omega)) only [std, reduceIte, reduceCtorEq, Int.reduceToNat, Nat.reduceAdd, Nat.reduceSub, Nat.reduceMul, Int.reduceAdd, Int.reduceSub, Int.reduceMul, Int.reduceNeg, fU, fM]; subst hK) | refine zcA (hfw) rfl rfl rfl ?_)
      exact ⟨_, rfl, rfl⟩

end Go.Proofs.Ytdhkdnmefeeclaa
