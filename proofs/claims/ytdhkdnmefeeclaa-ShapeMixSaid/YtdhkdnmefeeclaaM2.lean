/- Walks of lin: Rank, Apply. -/
import Derived.Test.YtdhkdnmefeeclaaM1
import Derived.Test.YtdhkdnmefeeclaaV2
set_option linter.unusedSimpArgs false
set_option linter.unusedVariables false
set_option linter.unnecessarySimpa false
set_option linter.unusedSimpArgs false
set_option linter.unusedVariables false
set_option maxRecDepth 100000
set_option maxHeartbeats 4000000
namespace Go.Proofs.Ytdhkdnmefeeclaa
open Go Go.Am Go.Proofs Go.RowKit Go.Off

abbrev c58 : CC := (.seq (.reg [⟨(some 2), none, (.mv (.const (.int .i64 (0))))⟩]) (.seq (.reg [⟨(some 6), none, (.mv (.tmp 0))⟩, ⟨(some 7), none, (.callf (.func 56) [(.tmp 6)])⟩, ⟨(some 5), none, (.mv (.tmp 7))⟩, ⟨(some 8), none, (.ext (.tmp 5) 0)⟩, ⟨(some 9), none, (.ext (.tmp 5) 1)⟩, ⟨(some 3), none, (.mv (.tmp 8))⟩, ⟨(some 4), none, (.mv (.tmp 9))⟩]) (.seq (.reg [⟨(some 10), none, (.mv (.tmp 4))⟩, ⟨(some 11), none, (.len false (.tmp 10))⟩, ⟨(some 2), none, (.mv (.tmp 11))⟩]) .ret)))
theorem cc58 : ccode Try.prog [] (Try.f58.body.getD .skip) = some c58 := by kernel_rfl
theorem body58 : Try.f58.body = some (Try.f58.body.getD .skip) := rfl

def rankQ (m : MM) : Nat := if okM m then (redTo (qM m) (cols m)).2.length else 0
theorem rank_C (m : MM) (n L : Nat) (hm : FitsM m n L) (hn : n ≤ 1000000) (hL : 1 ≤ L) (hB : 4 ^ (osl m).length * (L + 1) ≤ 1000000) :
    PureC Try.prog 58 [aM m] (.ret (aI (rankQ m : Nat))) := by
  unfold rankQ
  by_cases hk : okM m = true
  · have hr := reduce_C m n L hm hn hL hk hB
    rw [if_pos hk]
    have hl : ((osl (rowO (intsN (redTo (qM m) (cols m)).2))).length : Nat) = (redTo (qM m) (cols m)).2.length := by rw [osl_rowO, intsN_length]
    generalize (redTo (qM m) (cols m)) = S at *
    refine pureC_of (rs := [(RV.tmp 2)]) Try.func58 (fun a w => Try.call58 a w) body58 cc58 (by kernel_rfl) ?_
    rw [Try.ntmps58]
    simp only [frs, Nat.reduceAdd, Nat.reduceSub]
    repeat (first | (with_reducible first | refine Way.imp ?_ | refine blk_o rfl ?_) | ((with_reducible refine WayR.imp (fun K hK => ?_)); simp (disch := first | omega | (simp only [dls]; omega)) only [std, reduceIte, reduceCtorEq, Int.reduceToNat, Nat.reduceAdd, Nat.reduceSub, Nat.reduceMul, Int.reduceAdd, Int.reduceSub, Int.reduceMul, Int.reduceNeg, fU, hl]; subst hK) | refine zcA (hr) rfl rfl rfl ?_)
    exact ⟨_, rfl, rfl⟩
  · have hk' : okM m = false := by simpa using hk
    have hr := reduce_no m (by have := hm.1; omega) hk'
    rw [if_neg hk]
    refine pureC_of (rs := [(RV.tmp 2)]) Try.func58 (fun a w => Try.call58 a w) body58 cc58 (by kernel_rfl) ?_
    rw [Try.ntmps58]
    simp only [frs, Nat.reduceAdd, Nat.reduceSub]
    repeat (first | (with_reducible first | refine Way.imp ?_ | refine blk_o rfl ?_) | ((with_reducible refine WayR.imp (fun K hK => ?_)); simp (disch := first | omega | (simp only [dls]; omega)) only [std, reduceIte, reduceCtorEq, Int.reduceToNat, Nat.reduceAdd, Nat.reduceSub, Nat.reduceMul, Int.reduceAdd, Int.reduceSub, Int.reduceMul, Int.reduceNeg, fU]; subst hK) | refine zcA (hr) rfl rfl rfl ?_)
    exact ⟨_, rfl, rfl⟩

/-- A matrix applied to a row. -/
def applyQ (m : MM) (x : VV) : List Rat := (osl m).map fun v => dotV v x

abbrev c64_k1 : CC := (.seq (.reg [⟨(some 44), none, (.mv (.tmp 9))⟩, ⟨(some 4), none, (.mv (.tmp 44))⟩, ⟨(some 5), none, (.mv (.const (.int .i64 (0))))⟩]) .ret)
abbrev c64_b1 : CC := (.seq (.reg [⟨(some 34), none, (.bin .lss (.tmp 33) (.tmp 32))⟩]) (.seq (.cond (.tmp 34) .skip (.exit 0)) (.seq (.block 1 (.seq (.reg [⟨(some 35), none, (.iaddr 1 none (.tmp 31) (.tmp 33))⟩, ⟨(some 36), none, (.load 1 false (.tmp 35))⟩, ⟨(some 11), none, (.mv (.tmp 36))⟩]) (.reg [⟨(some 37), none, (.mv (.tmp 9))⟩, ⟨(some 38), none, (.mv (.tmp 11))⟩, ⟨(some 39), none, (.mv (.tmp 1))⟩, ⟨(some 40), none, (.callf (.func 41) [(.tmp 38), (.tmp 39)])⟩, ⟨(some 41), none, (.mkrow 40 3 [(.tmp 40)])⟩, ⟨(some 42), none, (.append 40 3 56 (.tmp 37) (.tmp 41))⟩, ⟨(some 9), none, (.mv (.tmp 42))⟩]))) (.reg [⟨(some 43), none, (.bin .add (.tmp 33) (.const (.int .i64 (1))))⟩, ⟨(some 33), none, (.mv (.tmp 43))⟩]))))
abbrev c64 : CC := (.seq (.reg [⟨(some 4), none, (.mv (.const (.slice none 0 0)))⟩, ⟨(some 5), none, (.mv (.const (.int .i64 (0))))⟩]) (.seq (.reg [⟨(some 13), none, (.mv (.tmp 0))⟩, ⟨(some 14), none, (.callf (.func 113) [(.tmp 13)])⟩, ⟨(some 12), none, (.mv (.tmp 14))⟩, ⟨(some 15), none, (.ext (.tmp 12) 0)⟩, ⟨(some 16), none, (.ext (.tmp 12) 1)⟩, ⟨(some 17), none, (.ext (.tmp 12) 2)⟩, ⟨(some 6), none, (.mv (.tmp 15))⟩, ⟨(some 7), none, (.mv (.tmp 16))⟩, ⟨(some 8), none, (.mv (.tmp 17))⟩]) (.seq (.seq (.reg [⟨(some 18), none, (.mv (.tmp 8))⟩, ⟨(some 19), none, (.un .not (.tmp 18))⟩, ⟨(some 20), none, (.mv (.tmp 19))⟩, ⟨(some 21), (some (20, false)), (.mv (.tmp 0))⟩, ⟨(some 22), (some (20, false)), (.len false (.tmp 21))⟩, ⟨(some 23), (some (20, false)), (.bin .gtr (.tmp 22) (.const (.int .i64 (0))))⟩, ⟨(some 24), (some (20, false)), (.mv (.tmp 23))⟩, ⟨(some 25), (some (24, true)), (.mv (.tmp 7))⟩, ⟨(some 26), (some (24, true)), (.mv (.tmp 1))⟩, ⟨(some 27), (some (24, true)), (.len false (.tmp 26))⟩, ⟨(some 28), (some (24, true)), (.bin .neq (.tmp 25) (.tmp 27))⟩, ⟨(some 29), (some (20, false)), (.pick (.tmp 24) (.tmp 28) (.const (.bool false)))⟩, ⟨(some 30), none, (.pick (.tmp 20) (.const (.bool true)) (.tmp 29))⟩]) (.cond (.tmp 30) (.seq (.reg [⟨(some 4), none, (.mv (.const (.slice none 0 0)))⟩, ⟨(some 5), none, (.mv (.const (.int .i64 (7))))⟩]) .ret) .skip)) (.seq (.reg [⟨(some 9), none, (.mv (.const (.slice none 0 0)))⟩]) (.seq (.seq (.reg [⟨(some 31), none, (.mv (.tmp 0))⟩, ⟨(some 32), none, (.len false (.tmp 31))⟩, ⟨(some 33), none, (.mv (.const (.int .i64 (0))))⟩]) (.block 0 (.loop c64_b1))) c64_k1)))))
theorem cc64 : ccode Try.prog [] (Try.f64.body.getD .skip) = some c64 := by kernel_rfl
theorem body64 : Try.f64.body = some (Try.f64.body.getD .skip) := rfl

theorem apply_no (m : MM) (x : VV) (hm : (osl m).length ≤ 1000000) (hx : (osl x).length ≤ 1000000) (hk : okM m = false ∨ (osl m).length ≠ 0 ∧ cols m ≠ (osl x).length) : PureC Try.prog 64 [aM m, aV x] (.ret (.tup [aV none, aI 7])) := by
  have hs := sides_C m hm
  unfold sidesV at hs
  by_cases hk' : okM m = true
  · rw [hk', if_pos rfl] at hs
    obtain ⟨h1, h2⟩ := hk.resolve_left (by rw [hk']; simp)
    have h3 : 0 < (osl m).length := by omega
    have h4 : ((cols m : Nat) : Int) ≠ ((osl x).length : Int) := by omega
    refine pureC_of (rs := [(RV.tmp 4), (RV.tmp 5)]) Try.func64 (fun a w => Try.call64 a w) body64 cc64 (by kernel_rfl) ?_
    rw [Try.ntmps64]
    simp only [frs, Nat.reduceAdd, Nat.reduceSub]
    repeat (first | (with_reducible first | refine Way.imp ?_ | refine blk_o rfl ?_) | ((with_reducible refine WayR.imp (fun K hK => ?_)); simp (disch := first | omega | (simp only [dls]; omega)) only [std, reduceIte, reduceCtorEq, Int.reduceToNat, Nat.reduceAdd, Nat.reduceSub, Nat.reduceMul, Int.reduceAdd, Int.reduceSub, Int.reduceMul, Int.reduceNeg, fU]; subst hK) | refine zcA (hs) rfl rfl rfl ?_)
    exact ⟨_, rfl, rfl⟩
  · rw [show okM m = false from by simpa using hk', if_neg (by simp)] at hs
    refine pureC_of (rs := [(RV.tmp 4), (RV.tmp 5)]) Try.func64 (fun a w => Try.call64 a w) body64 cc64 (by kernel_rfl) ?_
    rw [Try.ntmps64]
    simp only [frs, Nat.reduceAdd, Nat.reduceSub]
    repeat (first | (with_reducible first | refine Way.imp ?_ | refine blk_o rfl ?_) | ((with_reducible refine WayR.imp (fun K hK => ?_)); simp (disch := first | omega | (simp only [dls]; omega)) only [std, reduceIte, reduceCtorEq, Int.reduceToNat, Nat.reduceAdd, Nat.reduceSub, Nat.reduceMul, Int.reduceAdd, Int.reduceSub, Int.reduceMul, Int.reduceNeg, fU]; subst hK) | refine zcA (hs) rfl rfl rfl ?_)
    exact ⟨_, rfl, rfl⟩

theorem apply_yes (m : MM) (x : VV) (n L : Nat) (hm : FitsM m n L) (hx : FitsV x n L) (hn : n ≤ 1000) (hL : 1 ≤ L) (hL2 : L ≤ 2000) (hk : okM m = true) (hc : (osl m).length = 0 ∨ cols m = (osl x).length) :
    PureC Try.prog 64 [aM m, aV x] (.ret (.tup [aV (rowO ((applyQ m x).map rawQ)), aI 0])) := by
  have hm1 := hm.1
  have hx1 := hx.1
  have hs := sides_C m (by omega)
  unfold sidesV at hs
  rw [hk, if_pos rfl] at hs
  have main : ∀ (Z : Nat), cols m = Z → ((osl m).length = 0 ∨ Z = (osl x).length) → PureC Try.prog 64 [aM m, aV x] (.ret (.tup [aV (rowO ((applyQ m x).map rawQ)), aI 0])) := by
    intro Z hZ hc
    rw [hZ] at hs
    refine pureC_of (rs := [(RV.tmp 4), (RV.tmp 5)]) Try.func64 (fun a w => Try.call64 a w) body64 cc64 (by kernel_rfl) ?_
    rw [Try.ntmps64]
    simp only [frs, Nat.reduceAdd, Nat.reduceSub]
    by_cases h0 : (osl m).length = 0
    · have hz : applyQ m x = [] := by unfold applyQ; rw [List.length_eq_zero_iff.1 h0]; rfl
      rw [hz]
      repeat (first | (with_reducible first | refine Way.imp ?_ | refine blk_o rfl ?_) | ((with_reducible refine WayR.imp (fun K hK => ?_)); simp (disch := first | omega | (simp only [dls]; omega)) only [std, reduceIte, reduceCtorEq, Int.reduceToNat, Nat.reduceAdd, Nat.reduceSub, Nat.reduceMul, Int.reduceAdd, Int.reduceSub, Int.reduceMul, Int.reduceNeg, fU, h0]; subst hK) | refine zcA (hs) rfl rfl rfl ?_)
      refine awp_loop (fun (zz : Nat) => ⟨(.junk :: .junk :: .junk :: .junk :: .junk :: .junk :: .junk :: .junk :: .junk :: .one (.c (.val (.slice none 0 0))) :: .junk :: .junk :: .junk :: .junk :: .junk :: .junk :: .junk :: .junk :: .junk :: .junk :: .junk :: .junk :: .junk :: .junk :: .junk :: .junk :: .junk :: .junk :: .junk :: .junk :: .junk :: .junk :: aI 0 :: aI zz :: .junk :: .junk :: .junk :: .junk :: .junk :: .junk :: .junk :: .junk :: .junk :: .junk :: .junk :: []), []⟩) (fun (zz : Nat) => zz = 0) (fun (zz : Nat) => 0) (0) ?hI1 (Fgt.head (Nat.le_refl _) (false :: false :: false :: false :: false :: false :: false :: false :: false :: true :: false :: false :: false :: false :: false :: false :: false :: false :: false :: false :: false :: false :: false :: false :: false :: false :: false :: false :: false :: false :: false :: false :: true :: true :: []) ?hT1 ?hH1) ?hB1
      case hT1 => first | (simp (disch := omega) only [hds, liveT, cleanAV, cleanCell, clean1, cleanBlk, reduceIte, Int.reduceSub, Int.reduceAdd, Int.reduceNeg]; done) | rfl
      case hH1 => first | (simp (disch := omega) only [hds, liveT, cleanAV, cleanCell, clean1, cleanBlk, reduceIte, Int.reduceSub, Int.reduceAdd, Int.reduceNeg]; done) | rfl
      · rfl
      rintro i hi
      rw [hi]
      repeat (first | (with_reducible first | refine Way.imp ?_ | refine blk_o rfl ?_) | ((with_reducible refine WayR.imp (fun K hK => ?_)); simp (disch := first | omega | (simp only [dls]; omega)) only [std, reduceIte, reduceCtorEq, Int.reduceToNat, Nat.reduceAdd, Nat.reduceSub, Nat.reduceMul, Int.reduceAdd, Int.reduceSub, Int.reduceMul, Int.reduceNeg, fU]; subst hK))
      exact ⟨_, rfl, rfl⟩
    · have hZx : Z = (osl x).length := hc.resolve_left h0
      repeat (first | (with_reducible first | refine Way.imp ?_ | refine blk_o rfl ?_) | ((with_reducible refine WayR.imp (fun K hK => ?_)); simp (disch := first | omega | (simp only [dls]; omega)) only [std, reduceIte, reduceCtorEq, Int.reduceToNat, Nat.reduceAdd, Nat.reduceSub, Nat.reduceMul, Int.reduceAdd, Int.reduceSub, Int.reduceMul, Int.reduceNeg, fU, hZx]; subst hK) | refine zcA (hs) rfl rfl rfl ?_)
      refine AWp.fgt ?_ (Fgt.openNil (i := 9) rfl 40 3)
      simp only [List.set_cons_succ, List.set_cons_zero, List.length_nil, List.length_cons, List.nil_append, List.cons_append, Nat.reduceAdd]
      refine awp_loop (fun (zz : Nat × (List RR) × Nat × Bool) => ⟨(.junk :: aV x :: .junk :: .junk :: .junk :: .junk :: .junk :: .junk :: .junk :: .one (.own 0 zz.2.2.1) :: .junk :: .junk :: .junk :: .junk :: .junk :: .junk :: .junk :: .junk :: .junk :: .junk :: .junk :: .junk :: .junk :: .junk :: .junk :: .junk :: .junk :: .junk :: .junk :: .junk :: .junk :: aM m :: aI (osl m).length :: aI zz.1 :: .junk :: .junk :: .junk :: .junk :: .junk :: .junk :: .junk :: .junk :: .junk :: .junk :: .junk :: []), [⟨zz.2.2.1, 40, 3, encB fR zz.2.1, true, zz.2.2.2⟩]⟩) (fun (zz : Nat × (List RR) × Nat × Bool) => zz.1 ≤ (osl m).length ∧ zz.2.1 = ((osl m).take zz.1).map (fun r => rawQ (dotV r x)) ∧ zz.2.2.2 = !zz.2.1.isEmpty) (fun (zz : Nat × (List RR) × Nat × Bool) => (osl m).length - zz.1) (0, [], 0, false) ?hI2 (Fgt.head (Nat.zero_le 1) (false :: true :: false :: false :: false :: false :: false :: false :: false :: true :: false :: false :: false :: false :: false :: false :: false :: false :: false :: false :: false :: false :: false :: false :: false :: false :: false :: false :: false :: false :: false :: true :: true :: true :: []) ?hT2 ?hH2) ?hB2
      case hT2 => first | (simp (disch := omega) only [hds, liveT, cleanAV, cleanCell, clean1, cleanBlk, reduceIte, Int.reduceSub, Int.reduceAdd, Int.reduceNeg, encB_nil]; done) | rfl
      case hH2 => first | (simp (disch := omega) only [hds, liveT, cleanAV, cleanCell, clean1, cleanBlk, reduceIte, Int.reduceSub, Int.reduceAdd, Int.reduceNeg, encB_nil]; done) | rfl
      · dsimp only; exact ⟨by omega, rfl, rfl⟩
      rintro ⟨i, out, v, nn⟩ ⟨hi, ho, hnn⟩
      dsimp only at hi ho hnn
      by_cases him : i = (osl m).length
      · repeat (first | (with_reducible first | refine Way.imp ?_ | refine blk_o rfl ?_) | ((with_reducible refine WayR.imp (fun K hK => ?_)); simp (disch := first | omega | (simp only [dls]; omega)) only [std, reduceIte, reduceCtorEq, Int.reduceToNat, Nat.reduceAdd, Nat.reduceSub, Nat.reduceMul, Int.reduceAdd, Int.reduceSub, Int.reduceMul, Int.reduceNeg, fU]; subst hK))
        refine ⟨_, rfl, ?_⟩
        have he : (applyQ m x).map rawQ = out := by
          rw [ho, him, List.take_length]; unfold applyQ; rw [List.map_map]; rfl
        rw [he]
        exact close_res2 rfl (by decide) hnn
      · have hlt : i < (osl m).length := by omega
        have hdot := dot_C (osl m)[i] x n L (hm.2 _ (List.getElem_mem hlt)) hx hn hL hL2
        have hol : out.length = i := by rw [ho, List.length_map, List.length_take]; omega
        repeat (first | (with_reducible first | refine Way.imp ?_ | refine blk_o rfl ?_) | ((with_reducible refine WayR.imp (fun K hK => ?_)); simp (disch := first | omega | (simp only [dls]; omega)) only [std, reduceIte, reduceCtorEq, Int.reduceToNat, Nat.reduceAdd, Nat.reduceSub, Nat.reduceMul, Int.reduceAdd, Int.reduceSub, Int.reduceMul, Int.reduceNeg, fU, fM]; subst hK) | refine zcA (hdot) rfl rfl rfl ?_)
        refine ⟨(i + 1, out ++ [rawQ (dotV (osl m)[i] x)], v + 1, true), ?hI3, ?hM3, Fgt.head (Nat.zero_le 1) (false :: true :: false :: false :: false :: false :: false :: false :: false :: true :: false :: false :: false :: false :: false :: false :: false :: false :: false :: false :: false :: false :: false :: false :: false :: false :: false :: false :: false :: false :: false :: true :: true :: true :: []) ?hT3 ?hH3⟩
        case hT3 => first | (simp (disch := omega) only [hds, liveT, cleanAV, cleanCell, clean1, cleanBlk, reduceIte, Int.reduceSub, Int.reduceAdd, Int.reduceNeg, encB_snoc_row, List.isEmpty_cons, Bool.or_true, Bool.not_false]; done) | rfl
        case hH3 => first | (simp (disch := omega) only [hds, liveT, cleanAV, cleanCell, clean1, cleanBlk, reduceIte, Int.reduceSub, Int.reduceAdd, Int.reduceNeg, encB_snoc_row, List.isEmpty_cons, Bool.or_true, Bool.not_false]; done) | rfl
        · dsimp only
          refine ⟨by omega, ?_, by simp⟩
          rw [ho, List.take_succ_eq_append_getElem hlt, List.map_append]
          rfl
        · dsimp only; omega
  exact main _ rfl hc

def colQ (m : MM) (k i : Nat) : List Rat := (List.range i).map fun j => qAt (mAt m j) k
def turnQ (m : MM) : QM := (List.range (cols m)).map fun k => colQ m k (osl m).length
theorem colQ_succ (m : MM) (k i : Nat) : colQ m k (i + 1) = colQ m k i ++ [qAt (mAt m i) k] := by unfold colQ; rw [List.range_succ, List.map_append]; rfl

end Go.Proofs.Ytdhkdnmefeeclaa
set_option linter.unusedSimpArgs false
set_option linter.unusedVariables false
set_option maxRecDepth 100000
set_option maxHeartbeats 4000000
namespace Go.Proofs.Ytdhkdnmefeeclaa
open Go Go.Am Go.Proofs Go.RowKit Go.Off

def augV (v : VV) (r : RR) : VV := some (osl v ++ [r])
def augTo (m : MM) (b : VV) (k : Nat) : List VV := (List.range k).map fun i => augV (mAt m i) (rAt b i)
def augM (m : MM) (b : VV) : MM := rowO (augTo m b (osl m).length)
theorem augTo_succ (m : MM) (b : VV) (k : Nat) : augTo m b (k + 1) = augTo m b k ++ [augV (mAt m k) (rAt b k)] := by unfold augTo; rw [List.range_succ, List.map_append]; rfl
theorem encBack {α : Type} (f : α → List CV) (l : List α) : (l.map f).map (fun x => x.map Cell.c) = encB f l := (encB_eq l).symm

abbrev c63_k1 : CC := (.seq (.reg [⟨(some 98), none, (.mv (.tmp 14))⟩, ⟨(some 4), none, (.mv (.tmp 98))⟩, ⟨(some 5), none, (.mv (.const (.int .i64 (0))))⟩]) .ret)
abbrev c63_b1 : CC := (.seq (.reg [⟨(some 87), none, (.bin .lss (.tmp 86) (.tmp 85))⟩]) (.seq (.cond (.tmp 87) .skip (.exit 2)) (.seq (.block 3 (.seq (.reg [⟨(some 88), none, (.iaddr 1 none (.tmp 84) (.tmp 86))⟩, ⟨(some 89), none, (.load 1 false (.tmp 88))⟩, ⟨(some 16), none, (.mv (.tmp 89))⟩]) (.reg [⟨(some 90), none, (.mv (.tmp 14))⟩, ⟨(some 91), none, (.mv (.tmp 16))⟩, ⟨(some 92), none, (.mv (.tmp 6))⟩, ⟨(some 93), none, (.iaddr 3 none (.tmp 91) (.tmp 92))⟩, ⟨(some 94), none, (.load 3 true (.tmp 93))⟩, ⟨(some 95), none, (.mkrow 40 3 [(.tmp 94)])⟩, ⟨(some 96), none, (.append 40 3 56 (.tmp 90) (.tmp 95))⟩, ⟨(some 14), none, (.mv (.tmp 96))⟩]))) (.reg [⟨(some 97), none, (.bin .add (.tmp 86) (.const (.int .i64 (1))))⟩, ⟨(some 86), none, (.mv (.tmp 97))⟩]))))
abbrev c63_k2 : CC := (.seq (.reg [⟨(some 62), none, (.mv (.tmp 9))⟩, ⟨(some 63), none, (.callf (.func 56) [(.tmp 62)])⟩, ⟨(some 61), none, (.mv (.tmp 63))⟩, ⟨(some 64), none, (.ext (.tmp 61) 0)⟩, ⟨(some 65), none, (.ext (.tmp 61) 1)⟩, ⟨(some 12), none, (.mv (.tmp 64))⟩, ⟨(some 13), none, (.mv (.tmp 65))⟩]) (.seq (.seq (.reg [⟨(some 66), none, (.mv (.tmp 13))⟩, ⟨(some 67), none, (.len false (.tmp 66))⟩, ⟨(some 68), none, (.mv (.tmp 6))⟩, ⟨(some 69), none, (.bin .lss (.tmp 67) (.tmp 68))⟩, ⟨(some 70), none, (.mv (.tmp 69))⟩, ⟨(some 71), (some (70, false)), (.mv (.tmp 6))⟩, ⟨(some 72), (some (70, false)), (.bin .gtr (.tmp 71) (.const (.int .i64 (0))))⟩, ⟨(some 73), (some (70, false)), (.mv (.tmp 72))⟩, ⟨(some 74), (some (73, true)), (.mv (.tmp 13))⟩, ⟨(some 75), (some (73, true)), (.mv (.tmp 6))⟩, ⟨(some 76), (some (73, true)), (.bin .sub (.tmp 75) (.const (.int .i64 (1))))⟩, ⟨(some 77), (some (73, true)), (.iaddr 1 none (.tmp 74) (.tmp 76))⟩, ⟨(some 78), (some (73, true)), (.load 1 false (.tmp 77))⟩, ⟨(some 79), (some (73, true)), (.mv (.tmp 6))⟩, ⟨(some 80), (some (73, true)), (.bin .sub (.tmp 79) (.const (.int .i64 (1))))⟩, ⟨(some 81), (some (73, true)), (.bin .neq (.tmp 78) (.tmp 80))⟩, ⟨(some 82), (some (70, false)), (.pick (.tmp 73) (.tmp 81) (.const (.bool false)))⟩, ⟨(some 83), none, (.pick (.tmp 70) (.const (.bool true)) (.tmp 82))⟩]) (.cond (.tmp 83) (.seq (.reg [⟨(some 4), none, (.mv (.const (.slice none 0 0)))⟩, ⟨(some 5), none, (.mv (.const (.int .i64 (8))))⟩]) .ret) .skip)) (.seq (.reg [⟨(some 14), none, (.mv (.const (.slice none 0 0)))⟩]) (.seq (.seq (.reg [⟨(some 84), none, (.mv (.tmp 12))⟩, ⟨(some 85), none, (.len false (.tmp 84))⟩, ⟨(some 86), none, (.mv (.const (.int .i64 (0))))⟩]) (.block 2 (.loop c63_b1))) c63_k1))))
abbrev c63_b2 : CC := (.seq (.reg [⟨(some 43), none, (.bin .lss (.tmp 42) (.tmp 41))⟩]) (.seq (.cond (.tmp 43) .skip (.exit 0)) (.seq (.block 1 (.seq (.reg [⟨(some 44), none, (.mv (.tmp 42))⟩, ⟨(some 45), none, (.iaddr 1 none (.tmp 40) (.tmp 42))⟩, ⟨(some 46), none, (.load 1 false (.tmp 45))⟩, ⟨(some 10), none, (.mv (.tmp 44))⟩, ⟨(some 11), none, (.mv (.tmp 46))⟩]) (.regn false [⟨(some 47), none, (.mv (.tmp 9))⟩, ⟨(some 48), none, (.mv (.tmp 11))⟩, ⟨(some 49), none, (.mv (.tmp 7))⟩, ⟨(some 50), none, (.mv (.tmp 7))⟩, ⟨(some 51), none, (.cutc 3 (.tmp 48) none (some (.tmp 49)) (some (.tmp 50)))⟩, ⟨(some 52), none, (.mv (.tmp 1))⟩, ⟨(some 53), none, (.mv (.tmp 10))⟩, ⟨(some 54), none, (.iaddr 3 none (.tmp 52) (.tmp 53))⟩, ⟨(some 55), none, (.load 3 true (.tmp 54))⟩, ⟨(some 56), none, (.mkrowc 3 [(.tmp 55)])⟩, ⟨(some 57), none, (.append 40 3 56 (.tmp 51) (.tmp 56))⟩, ⟨(some 58), none, (.mkrow 22 1 [(.tmp 57)])⟩, ⟨(some 59), none, (.append 22 1 24 (.tmp 47) (.tmp 58))⟩, ⟨(some 9), none, (.mv (.tmp 59))⟩]))) (.reg [⟨(some 60), none, (.bin .add (.tmp 42) (.const (.int .i64 (1))))⟩, ⟨(some 42), none, (.mv (.tmp 60))⟩]))))
abbrev c63 : CC := (.seq (.reg [⟨(some 4), none, (.mv (.const (.slice none 0 0)))⟩, ⟨(some 5), none, (.mv (.const (.int .i64 (0))))⟩]) (.seq (.reg [⟨(some 18), none, (.mv (.tmp 0))⟩, ⟨(some 19), none, (.callf (.func 113) [(.tmp 18)])⟩, ⟨(some 17), none, (.mv (.tmp 19))⟩, ⟨(some 20), none, (.ext (.tmp 17) 0)⟩, ⟨(some 21), none, (.ext (.tmp 17) 1)⟩, ⟨(some 22), none, (.ext (.tmp 17) 2)⟩, ⟨(some 6), none, (.mv (.tmp 20))⟩, ⟨(some 7), none, (.mv (.tmp 21))⟩, ⟨(some 8), none, (.mv (.tmp 22))⟩]) (.seq (.seq (.reg [⟨(some 23), none, (.mv (.tmp 8))⟩, ⟨(some 24), none, (.un .not (.tmp 23))⟩, ⟨(some 25), none, (.mv (.tmp 24))⟩, ⟨(some 26), (some (25, false)), (.mv (.tmp 6))⟩, ⟨(some 27), (some (25, false)), (.mv (.tmp 7))⟩, ⟨(some 28), (some (25, false)), (.bin .neq (.tmp 26) (.tmp 27))⟩, ⟨(some 29), none, (.pick (.tmp 25) (.const (.bool true)) (.tmp 28))⟩, ⟨(some 30), none, (.mv (.tmp 29))⟩, ⟨(some 31), (some (30, false)), (.mv (.tmp 1))⟩, ⟨(some 32), (some (30, false)), (.len false (.tmp 31))⟩, ⟨(some 33), (some (30, false)), (.mv (.tmp 6))⟩, ⟨(some 34), (some (30, false)), (.bin .neq (.tmp 32) (.tmp 33))⟩, ⟨(some 35), none, (.pick (.tmp 30) (.const (.bool true)) (.tmp 34))⟩, ⟨(some 36), none, (.mv (.tmp 35))⟩, ⟨(some 37), (some (36, false)), (.mv (.tmp 6))⟩, ⟨(some 38), (some (36, false)), (.bin .geq (.tmp 37) (.const (.int .i64 (200))))⟩, ⟨(some 39), none, (.pick (.tmp 36) (.const (.bool true)) (.tmp 38))⟩]) (.cond (.tmp 39) (.seq (.reg [⟨(some 4), none, (.mv (.const (.slice none 0 0)))⟩, ⟨(some 5), none, (.mv (.const (.int .i64 (7))))⟩]) .ret) .skip)) (.seq (.reg [⟨(some 9), none, (.mv (.const (.slice none 0 0)))⟩]) (.seq (.seq (.reg [⟨(some 40), none, (.mv (.tmp 0))⟩, ⟨(some 41), none, (.len false (.tmp 40))⟩, ⟨(some 42), none, (.mv (.const (.int .i64 (0))))⟩]) (.block 0 (.loop c63_b2))) c63_k2)))))
theorem cc63 : ccode Try.prog [] (Try.f63.body.getD .skip) = some c63 := by kernel_rfl
theorem body63 : Try.f63.body = some (Try.f63.body.getD .skip) := rfl

theorem solve_size (m : MM) (b : VV) (hm : (osl m).length ≤ 1000000) (hb : (osl b).length ≤ 1000000) (hk : okM m = false ∨ (osl m).length ≠ cols m ∨ (osl b).length ≠ (osl m).length ∨ 200 ≤ (osl m).length) :
    PureC Try.prog 63 [aM m, aV b] (.ret (.tup [aV none, aI 7])) := by
  have hs := sides_C m hm
  unfold sidesV at hs
  by_cases hk' : okM m = true
  · rw [hk', if_pos rfl] at hs
    replace hk := hk.resolve_left (by rw [hk']; simp)
    by_cases h1 : (osl m).length = cols m
    · rw [← h1] at hs
      replace hk := hk.resolve_left (by omega)
      by_cases h2 : (osl b).length = (osl m).length
      · replace hk := hk.resolve_left (by omega)
        refine pureC_of (rs := [(RV.tmp 4), (RV.tmp 5)]) Try.func63 (fun a w => Try.call63 a w) body63 cc63 (by kernel_rfl) ?_
        rw [Try.ntmps63]
        simp only [frs, Nat.reduceAdd, Nat.reduceSub]
        repeat (first | (with_reducible first | refine Way.imp ?_ | refine blk_o rfl ?_) | ((with_reducible refine WayR.imp (fun K hK => ?_)); simp (disch := first | omega | (simp only [dls]; omega)) only [std, reduceIte, reduceCtorEq, Int.reduceToNat, Nat.reduceAdd, Nat.reduceSub, Nat.reduceMul, Int.reduceAdd, Int.reduceSub, Int.reduceMul, Int.reduceNeg, fU, h2]; subst hK) | refine zcA (hs) rfl rfl rfl ?_)
        exact ⟨_, rfl, rfl⟩
      · refine pureC_of (rs := [(RV.tmp 4), (RV.tmp 5)]) Try.func63 (fun a w => Try.call63 a w) body63 cc63 (by kernel_rfl) ?_
        rw [Try.ntmps63]
        simp only [frs, Nat.reduceAdd, Nat.reduceSub]
        repeat (first | (with_reducible first | refine Way.imp ?_ | refine blk_o rfl ?_) | ((with_reducible refine WayR.imp (fun K hK => ?_)); simp (disch := first | omega | (simp only [dls]; omega)) only [std, reduceIte, reduceCtorEq, Int.reduceToNat, Nat.reduceAdd, Nat.reduceSub, Nat.reduceMul, Int.reduceAdd, Int.reduceSub, Int.reduceMul, Int.reduceNeg, fU]; subst hK) | refine zcA (hs) rfl rfl rfl ?_)
        exact ⟨_, rfl, rfl⟩
    · refine pureC_of (rs := [(RV.tmp 4), (RV.tmp 5)]) Try.func63 (fun a w => Try.call63 a w) body63 cc63 (by kernel_rfl) ?_
      rw [Try.ntmps63]
      simp only [frs, Nat.reduceAdd, Nat.reduceSub]
      repeat (first | (with_reducible first | refine Way.imp ?_ | refine blk_o rfl ?_) | ((with_reducible refine WayR.imp (fun K hK => ?_)); simp (disch := first | omega | (simp only [dls]; omega)) only [std, reduceIte, reduceCtorEq, Int.reduceToNat, Nat.reduceAdd, Nat.reduceSub, Nat.reduceMul, Int.reduceAdd, Int.reduceSub, Int.reduceMul, Int.reduceNeg, fU]; subst hK) | refine zcA (hs) rfl rfl rfl ?_)
      exact ⟨_, rfl, rfl⟩
  · rw [show okM m = false from by simpa using hk', if_neg (by simp)] at hs
    refine pureC_of (rs := [(RV.tmp 4), (RV.tmp 5)]) Try.func63 (fun a w => Try.call63 a w) body63 cc63 (by kernel_rfl) ?_
    rw [Try.ntmps63]
    simp only [frs, Nat.reduceAdd, Nat.reduceSub]
    repeat (first | (with_reducible first | refine Way.imp ?_ | refine blk_o rfl ?_) | ((with_reducible refine WayR.imp (fun K hK => ?_)); simp (disch := first | omega | (simp only [dls]; omega)) only [std, reduceIte, reduceCtorEq, Int.reduceToNat, Nat.reduceAdd, Nat.reduceSub, Nat.reduceMul, Int.reduceAdd, Int.reduceSub, Int.reduceMul, Int.reduceNeg, fU]; subst hK) | refine zcA (hs) rfl rfl rfl ?_)
    exact ⟨_, rfl, rfl⟩

/-- What the reduced form of a matrix with a row beside it says. -/
def augRed (m : MM) (b : VV) : QM × List Nat := redTo (qM (augM m b)) (cols (augM m b))
def solveOk (m : MM) (b : VV) : Bool := decide ((osl m).length ≤ (augRed m b).2.length) && (decide ((osl m).length = 0) || decide ((augRed m b).2.getD ((osl m).length - 1) 0 = (osl m).length - 1))
def solveQ (m : MM) (b : VV) : List Rat := (augRed m b).1.map fun r => r.getD (osl m).length 0
def solveV (m : MM) (b : VV) : AV := if solveOk m b then .tup [aV (rowO ((solveQ m b).map rawQ)), aI 0] else .tup [aV none, aI 8]

theorem solve_C (m : MM) (b : VV) (n L : Nat) (hm : FitsM m n L) (hb : FitsV b n L) (hn : n ≤ 1000) (hL : 1 ≤ L) (hL2 : L ≤ 1000) (hk : okM m = true) (hc : cols m = (osl m).length) (hbl : (osl b).length = (osl m).length) (hlt : (osl m).length < 200)
    (hred : PureC Try.prog 56 [aM (augM m b)] (.ret (.tup [aM (rawM (augRed m b).1), aIs (rowO (intsN (augRed m b).2))]))) (hrows : ∀ r ∈ (augRed m b).1, r.length = (osl m).length + 1) (hQl : (augRed m b).1.length = (osl m).length) :
    PureC Try.prog 63 [aM m, aV b] (.ret (solveV m b)) := by
  have hm1 := hm.1
  have hs := sides_C m (by omega)
  unfold sidesV at hs
  rw [hk, if_pos rfl, hc] at hs
  have hk' := hk
  unfold okM at hk'
  simp only [Bool.and_eq_true, decide_eq_true_eq] at hk'
  refine pureC_of (rs := [(RV.tmp 4), (RV.tmp 5)]) Try.func63 (fun a w => Try.call63 a w) body63 cc63 (by kernel_rfl) ?_
  rw [Try.ntmps63]
  simp only [frs, Nat.reduceAdd, Nat.reduceSub]
  repeat (first | (with_reducible first | refine Way.imp ?_ | refine blk_o rfl ?_) | ((with_reducible refine WayR.imp (fun K hK => ?_)); simp (disch := first | omega | (simp only [dls]; omega)) only [std, reduceIte, reduceCtorEq, Int.reduceToNat, Nat.reduceAdd, Nat.reduceSub, Nat.reduceMul, Int.reduceAdd, Int.reduceSub, Int.reduceMul, Int.reduceNeg, fU, hbl]; subst hK) | refine zcA (hs) rfl rfl rfl ?_)
  refine AWp.fgt ?_ (Fgt.openNil (i := 9) rfl 22 1)
  simp only [List.set_cons_succ, List.set_cons_zero, List.length_nil, List.length_cons, List.nil_append, List.cons_append, Nat.reduceAdd]
  refine awp_loop (fun (zz : Nat × (List VV) × Nat × Bool) => ⟨(.junk :: aV b :: .junk :: .junk :: .junk :: .junk :: aI (osl m).length :: aI (osl m).length :: .junk :: .one (.own 0 zz.2.2.1) :: .junk :: .junk :: .junk :: .junk :: .junk :: .junk :: .junk :: .junk :: .junk :: .junk :: .junk :: .junk :: .junk :: .junk :: .junk :: .junk :: .junk :: .junk :: .junk :: .junk :: .junk :: .junk :: .junk :: .junk :: .junk :: .junk :: .junk :: .junk :: .junk :: .junk :: aM m :: aI (osl m).length :: aI zz.1 :: .junk :: .junk :: .junk :: .junk :: .junk :: .junk :: .junk :: .junk :: .junk :: .junk :: .junk :: .junk :: .junk :: .junk :: .junk :: .junk :: .junk :: .junk :: .junk :: .junk :: .junk :: .junk :: .junk :: .junk :: .junk :: .junk :: .junk :: .junk :: .junk :: .junk :: .junk :: .junk :: .junk :: .junk :: .junk :: .junk :: .junk :: .junk :: .junk :: .junk :: .junk :: .junk :: .junk :: .junk :: .junk :: .junk :: .junk :: .junk :: .junk :: .junk :: .junk :: .junk :: .junk :: .junk :: .junk :: .junk :: []), [⟨zz.2.2.1, 22, 1, encB fM zz.2.1, true, zz.2.2.2⟩]⟩) (fun (zz : Nat × (List VV) × Nat × Bool) => zz.1 ≤ (osl m).length ∧ zz.2.1 = augTo m b zz.1 ∧ zz.2.2.2 = !zz.2.1.isEmpty) (fun (zz : Nat × (List VV) × Nat × Bool) => (osl m).length - zz.1) (0, [], 0, false) ?hI1 (Fgt.head (Nat.zero_le 1) (false :: true :: false :: false :: false :: false :: true :: true :: false :: true :: false :: false :: false :: false :: false :: false :: false :: false :: false :: false :: false :: false :: false :: false :: false :: false :: false :: false :: false :: false :: false :: false :: false :: false :: false :: false :: false :: false :: false :: false :: true :: true :: true :: []) ?hT1 ?hH1) ?hB1
  case hT1 => first | (simp (disch := omega) only [hds, liveT, cleanAV, cleanCell, clean1, cleanBlk, reduceIte, Int.reduceSub, Int.reduceAdd, Int.reduceNeg, encB_nil]; done) | rfl
  case hH1 => first | (simp (disch := omega) only [hds, liveT, cleanAV, cleanCell, clean1, cleanBlk, reduceIte, Int.reduceSub, Int.reduceAdd, Int.reduceNeg, encB_nil]; done) | rfl
  · dsimp only; exact ⟨by omega, rfl, rfl⟩
  rintro ⟨i, out, u, nn⟩ ⟨hi, ho, hnn⟩
  dsimp only at hi ho hnn
  by_cases hin : i = (osl m).length
  · have hA : augM m b = rowO out := by unfold augM; rw [ho, hin]
    rw [hA] at hred
    unfold solveV solveOk solveQ
    generalize augRed m b = S at *
    obtain ⟨Q, P⟩ := S
    dsimp only at hred hrows hQl ⊢
    have hpl : ((osl (rowO (intsN P))).length : Nat) = P.length := by rw [osl_rowO, intsN_length]
    by_cases hP : (osl m).length ≤ P.length
    · rw [decide_eq_true hP, Bool.true_and]
      have hrm : (osl (rawM Q)).length = (osl m).length := by unfold rawM; rw [osl_some, List.length_map]; exact hQl
      by_cases hN0 : (osl m).length = 0
      · have hQ0 : Q = [] := List.length_eq_zero_iff.1 (by omega)
        rw [decide_eq_true hN0, Bool.true_or, if_pos rfl, hQ0]
        repeat (first | (with_reducible first | refine Way.imp ?_ | refine blk_o rfl ?_) | ((with_reducible refine WayR.imp (fun K hK => ?_)); simp (disch := first | omega | (simp only [dls]; omega)) only [std, reduceIte, reduceCtorEq, Int.reduceToNat, Nat.reduceAdd, Nat.reduceSub, Nat.reduceMul, Int.reduceAdd, Int.reduceSub, Int.reduceMul, Int.reduceNeg, fU, hN0, hpl, hrm]; subst hK) | (apply call_ret (hred) rfl; (case hcl => (simp only [evs, St.ev, constAV, evl]; (repeat (first | exact closeAVs_nil | (apply closeAVs_cons; (first | (refine close_own3 rfl (by decide)) | (refine close_ownO rfl (by decide) ?_; assumption) | rfl)))); done)); (case hf => rfl); (case hu => (simp only [evs, St.ev, constAV, evl]; (repeat (first | exact used_nil | (apply used_cons; (first | (apply used_own3; rfl) | rfl)))); done)); (case hh => ((simp only [fzl, Nat.reduceBEq, Nat.reduceAdd, Bool.false_eq_true, if_true, if_false, reduceIte]) <;> rfl))))
        refine awp_loop (fun (zz : Nat) => ⟨(.junk :: .junk :: .junk :: .junk :: .junk :: .junk :: .junk :: .junk :: .junk :: .junk :: .junk :: .junk :: .junk :: .junk :: .one (.c (.val (.slice none 0 0))) :: .junk :: .junk :: .junk :: .junk :: .junk :: .junk :: .junk :: .junk :: .junk :: .junk :: .junk :: .junk :: .junk :: .junk :: .junk :: .junk :: .junk :: .junk :: .junk :: .junk :: .junk :: .junk :: .junk :: .junk :: .junk :: .junk :: .junk :: .junk :: .junk :: .junk :: .junk :: .junk :: .junk :: .junk :: .junk :: .junk :: .junk :: .junk :: .junk :: .junk :: .junk :: .junk :: .junk :: .junk :: .junk :: .junk :: .junk :: .junk :: .junk :: .junk :: .junk :: .junk :: .junk :: .junk :: .junk :: .junk :: .junk :: .junk :: .junk :: .junk :: .junk :: .junk :: .junk :: .junk :: .junk :: .junk :: .junk :: .junk :: .junk :: .junk :: aI 0 :: aI zz :: .junk :: .junk :: .junk :: .junk :: .junk :: .junk :: .junk :: .junk :: .junk :: .junk :: .junk :: .junk :: []), []⟩) (fun (zz : Nat) => zz = 0) (fun (zz : Nat) => 0) (0) ?hI2 (Fgt.head (Nat.le_refl _) (false :: false :: false :: false :: false :: false :: false :: false :: false :: false :: false :: false :: false :: false :: true :: false :: false :: false :: false :: false :: false :: false :: false :: false :: false :: false :: false :: false :: false :: false :: false :: false :: false :: false :: false :: false :: false :: false :: false :: false :: false :: false :: false :: false :: false :: false :: false :: false :: false :: false :: false :: false :: false :: false :: false :: false :: false :: false :: false :: false :: false :: false :: false :: false :: false :: false :: false :: false :: false :: false :: false :: false :: false :: false :: false :: false :: false :: false :: false :: false :: false :: false :: false :: false :: false :: true :: true :: []) ?hT2 ?hH2) ?hB2
        case hT2 => first | (simp (disch := omega) only [hds, liveT, cleanAV, cleanCell, clean1, cleanBlk, reduceIte, Int.reduceSub, Int.reduceAdd, Int.reduceNeg]; done) | rfl
        case hH2 => first | (simp (disch := omega) only [hds, liveT, cleanAV, cleanCell, clean1, cleanBlk, reduceIte, Int.reduceSub, Int.reduceAdd, Int.reduceNeg]; done) | rfl
        · rfl
        rintro j hj
        rw [hj]
        repeat (first | (with_reducible first | refine Way.imp ?_ | refine blk_o rfl ?_) | ((with_reducible refine WayR.imp (fun K hK => ?_)); simp (disch := first | omega | (simp only [dls]; omega)) only [std, reduceIte, reduceCtorEq, Int.reduceToNat, Nat.reduceAdd, Nat.reduceSub, Nat.reduceMul, Int.reduceAdd, Int.reduceSub, Int.reduceMul, Int.reduceNeg, fU]; subst hK))
        exact ⟨_, rfl, rfl⟩
      have hN1 : (osl m).length - 1 < P.length := by omega
      have hpi : (((osl m).length : Int) - 1).toNat = (osl m).length - 1 := by omega
      have hent : ∀ h : (osl m).length - 1 < (osl (rowO (intsN P))).length, (osl (rowO (intsN P)))[(osl m).length - 1] = ((P[(osl m).length - 1] : Nat) : Int) := fun h => by
        rw [List.getElem_of_eq (osl_rowO (intsN P)) h]; unfold intsN; rw [List.getElem_map]
      rw [decide_eq_false hN0, Bool.false_or, List.getD_eq_getElem?_getD, List.getElem?_eq_getElem hN1, Option.getD_some]
      by_cases hq : P[(osl m).length - 1] = (osl m).length - 1
      case neg =>
        rw [decide_eq_false hq, if_neg (by simp)]
        have hne : ((P[(osl m).length - 1] : Nat) : Int) ≠ ((osl m).length : Int) - 1 := by omega
        generalize P[(osl m).length - 1] = z at *
        repeat (first | (with_reducible first | refine Way.imp ?_ | refine blk_o rfl ?_) | ((with_reducible refine WayR.imp (fun K hK => ?_)); simp (disch := first | omega | (simp only [dls]; omega)) only [std, reduceIte, reduceCtorEq, Int.reduceToNat, Nat.reduceAdd, Nat.reduceSub, Nat.reduceMul, Int.reduceAdd, Int.reduceSub, Int.reduceMul, Int.reduceNeg, fU, fI, hpi, hent, hpl]; subst hK) | (apply call_ret (hred) rfl; (case hcl => (simp only [evs, St.ev, constAV, evl]; (repeat (first | exact closeAVs_nil | (apply closeAVs_cons; (first | (refine close_own3 rfl (by decide)) | (refine close_ownO rfl (by decide) ?_; assumption) | rfl)))); done)); (case hf => rfl); (case hu => (simp only [evs, St.ev, constAV, evl]; (repeat (first | exact used_nil | (apply used_cons; (first | (apply used_own3; rfl) | rfl)))); done)); (case hh => ((simp only [fzl, Nat.reduceBEq, Nat.reduceAdd, Bool.false_eq_true, if_true, if_false, reduceIte]) <;> rfl))))
        exact ⟨_, rfl, rfl⟩
      rw [decide_eq_true hq, if_pos rfl]
      have hne : ((P[(osl m).length - 1] : Nat) : Int) = ((osl m).length : Int) - 1 := by omega
      generalize P[(osl m).length - 1] = z at *
      repeat (first | (with_reducible first | refine Way.imp ?_ | refine blk_o rfl ?_) | ((with_reducible refine WayR.imp (fun K hK => ?_)); simp (disch := first | omega | (simp only [dls]; omega)) only [std, reduceIte, reduceCtorEq, Int.reduceToNat, Nat.reduceAdd, Nat.reduceSub, Nat.reduceMul, Int.reduceAdd, Int.reduceSub, Int.reduceMul, Int.reduceNeg, fU, fI, hpi, hent, hpl, hrm]; subst hK) | (apply call_ret (hred) rfl; (case hcl => (simp only [evs, St.ev, constAV, evl]; (repeat (first | exact closeAVs_nil | (apply closeAVs_cons; (first | (refine close_own3 rfl (by decide)) | (refine close_ownO rfl (by decide) ?_; assumption) | rfl)))); done)); (case hf => rfl); (case hu => (simp only [evs, St.ev, constAV, evl]; (repeat (first | exact used_nil | (apply used_cons; (first | (apply used_own3; rfl) | rfl)))); done)); (case hh => ((simp only [fzl, Nat.reduceBEq, Nat.reduceAdd, Bool.false_eq_true, if_true, if_false, reduceIte]) <;> rfl))))
      refine AWp.fgt ?_ (Fgt.openNil (i := 14) rfl 40 3)
      simp only [List.set_cons_succ, List.set_cons_zero, List.length_nil, List.length_cons, List.nil_append, List.cons_append, Nat.reduceAdd]
      refine awp_loop (fun (zz : Nat × (List RR) × Nat × Bool) => ⟨(.junk :: .junk :: .junk :: .junk :: .junk :: .junk :: aI (osl m).length :: .junk :: .junk :: .junk :: .junk :: .junk :: .junk :: .junk :: .one (.own 1 zz.2.2.1) :: .junk :: .junk :: .junk :: .junk :: .junk :: .junk :: .junk :: .junk :: .junk :: .junk :: .junk :: .junk :: .junk :: .junk :: .junk :: .junk :: .junk :: .junk :: .junk :: .junk :: .junk :: .junk :: .junk :: .junk :: .junk :: .junk :: .junk :: .junk :: .junk :: .junk :: .junk :: .junk :: .junk :: .junk :: .junk :: .junk :: .junk :: .junk :: .junk :: .junk :: .junk :: .junk :: .junk :: .junk :: .junk :: .junk :: .junk :: .junk :: .junk :: .junk :: .junk :: .junk :: .junk :: .junk :: .junk :: .junk :: .junk :: .junk :: .junk :: .junk :: .junk :: .junk :: .junk :: .junk :: .junk :: .junk :: .junk :: .junk :: .junk :: aM (rawM Q) :: aI (osl m).length :: aI zz.1 :: .junk :: .junk :: .junk :: .junk :: .junk :: .junk :: .junk :: .junk :: .junk :: .junk :: .junk :: .junk :: []), [⟨u, 22, 1, encB fM out, false, nn⟩, ⟨zz.2.2.1, 40, 3, encB fR zz.2.1, true, zz.2.2.2⟩]⟩) (fun (zz : Nat × (List RR) × Nat × Bool) => zz.1 ≤ (osl m).length ∧ zz.2.1 = (Q.take zz.1).map (fun r => rawQ (r.getD (osl m).length 0)) ∧ zz.2.2.2 = !zz.2.1.isEmpty) (fun (zz : Nat × (List RR) × Nat × Bool) => (osl m).length - zz.1) (0, [], 0, false) ?hI3 (Fgt.head (Nat.zero_le 2) (false :: false :: false :: false :: false :: false :: true :: false :: false :: false :: false :: false :: false :: false :: true :: false :: false :: false :: false :: false :: false :: false :: false :: false :: false :: false :: false :: false :: false :: false :: false :: false :: false :: false :: false :: false :: false :: false :: false :: false :: false :: false :: false :: false :: false :: false :: false :: false :: false :: false :: false :: false :: false :: false :: false :: false :: false :: false :: false :: false :: false :: false :: false :: false :: false :: false :: false :: false :: false :: false :: false :: false :: false :: false :: false :: false :: false :: false :: false :: false :: false :: false :: false :: false :: true :: true :: true :: []) ?hT3 ?hH3) ?hB3
      case hT3 => first | (simp (disch := omega) only [hds, liveT, cleanAV, cleanCell, clean1, cleanBlk, reduceIte, Int.reduceSub, Int.reduceAdd, Int.reduceNeg, encB_nil]; done) | rfl
      case hH3 => first | (simp (disch := omega) only [hds, liveT, cleanAV, cleanCell, clean1, cleanBlk, reduceIte, Int.reduceSub, Int.reduceAdd, Int.reduceNeg, encB_nil]; done) | rfl
      · dsimp only; exact ⟨by omega, rfl, rfl⟩
      rintro ⟨j, ro, v, rn⟩ ⟨hj, hro, hrn⟩
      dsimp only at hj hro hrn
      by_cases hjn : j = (osl m).length
      · repeat (first | (with_reducible first | refine Way.imp ?_ | refine blk_o rfl ?_) | ((with_reducible refine WayR.imp (fun K hK => ?_)); simp (disch := first | omega | (simp only [dls]; omega)) only [std, reduceIte, reduceCtorEq, Int.reduceToNat, Nat.reduceAdd, Nat.reduceSub, Nat.reduceMul, Int.reduceAdd, Int.reduceSub, Int.reduceMul, Int.reduceNeg, fU]; subst hK))
        refine ⟨_, rfl, ?_⟩
        have he : (Q.map fun r => r.getD (osl m).length 0).map rawQ = ro := by
          rw [hro, hjn, ← hQl, List.take_length, List.map_map]; rfl
        rw [he]
        exact close_res2 rfl (by decide) hrn
      · have hjl : j < Q.length := by omega
        have hrml : j < (osl (rawM Q)).length := by omega
        have hge : ∀ h : j < (osl (rawM Q)).length, (osl (rawM Q))[j] = rawV Q[j] := fun h => by unfold rawM; simp only [osl_some, List.getElem_map]
        have hrw := hrows _ (List.getElem_mem hjl)
        have hrwl : (osl (rawV Q[j])).length = (osl m).length + 1 := by rw [osl_rawV, List.length_map]; exact hrw
        have hen : ∀ h : (osl m).length < (osl (rawV Q[j])).length, (osl (rawV Q[j]))[(osl m).length] = rawQ (Q[j].getD (osl m).length 0) := fun h => by
          simp only [osl_rawV, List.getElem_map]
          rw [List.getD_eq_getElem?_getD, List.getElem?_eq_getElem (by omega)]
          rfl
        have hrol : ro.length = j := by rw [hro, List.length_map, List.length_take]; omega
        repeat (first | (with_reducible first | refine Way.imp ?_ | refine blk_o rfl ?_) | ((with_reducible refine WayR.imp (fun K hK => ?_)); simp (disch := first | omega | (simp only [dls]; omega)) only [std, reduceIte, reduceCtorEq, Int.reduceToNat, Nat.reduceAdd, Nat.reduceSub, Nat.reduceMul, Int.reduceAdd, Int.reduceSub, Int.reduceMul, Int.reduceNeg, fU, fM, fR, hge, hrwl, hen]; subst hK))
        refine ⟨(j + 1, ro ++ [rawQ (Q[j].getD (osl m).length 0)], v + 1, true), ?hI4, ?hM4, Fgt.head (Nat.zero_le 2) (false :: false :: false :: false :: false :: false :: true :: false :: false :: false :: false :: false :: false :: false :: true :: false :: false :: false :: false :: false :: false :: false :: false :: false :: false :: false :: false :: false :: false :: false :: false :: false :: false :: false :: false :: false :: false :: false :: false :: false :: false :: false :: false :: false :: false :: false :: false :: false :: false :: false :: false :: false :: false :: false :: false :: false :: false :: false :: false :: false :: false :: false :: false :: false :: false :: false :: false :: false :: false :: false :: false :: false :: false :: false :: false :: false :: false :: false :: false :: false :: false :: false :: false :: false :: true :: true :: true :: []) ?hT4 ?hH4⟩
        case hT4 => first | (simp (disch := omega) only [hds, liveT, cleanAV, cleanCell, clean1, cleanBlk, reduceIte, Int.reduceSub, Int.reduceAdd, Int.reduceNeg, encB_snoc_row, List.isEmpty_cons, Bool.or_true, Bool.not_false]; done) | rfl
        case hH4 => first | (simp (disch := omega) only [hds, liveT, cleanAV, cleanCell, clean1, cleanBlk, reduceIte, Int.reduceSub, Int.reduceAdd, Int.reduceNeg, encB_snoc_row, List.isEmpty_cons, Bool.or_true, Bool.not_false]; done) | rfl
        · dsimp only
          refine ⟨by omega, ?_, by simp⟩
          rw [hro, List.take_succ_eq_append_getElem hjl, List.map_append]
          rfl
        · dsimp only; omega
    · rw [decide_eq_false hP, Bool.false_and, if_neg (by simp)]
      repeat (first | (with_reducible first | refine Way.imp ?_ | refine blk_o rfl ?_) | ((with_reducible refine WayR.imp (fun K hK => ?_)); simp (disch := first | omega | (simp only [dls]; omega)) only [std, reduceIte, reduceCtorEq, Int.reduceToNat, Nat.reduceAdd, Nat.reduceSub, Nat.reduceMul, Int.reduceAdd, Int.reduceSub, Int.reduceMul, Int.reduceNeg, fU, hpl]; subst hK) | (apply call_ret (hred) rfl; (case hcl => (simp only [evs, St.ev, constAV, evl]; (repeat (first | exact closeAVs_nil | (apply closeAVs_cons; (first | (refine close_own3 rfl (by decide)) | (refine close_ownO rfl (by decide) ?_; assumption) | rfl)))); done)); (case hf => rfl); (case hu => (simp only [evs, St.ev, constAV, evl]; (repeat (first | exact used_nil | (apply used_cons; (first | (apply used_own3; rfl) | rfl)))); done)); (case hh => ((simp only [fzl, Nat.reduceBEq, Nat.reduceAdd, Bool.false_eq_true, if_true, if_false, reduceIte]) <;> rfl))))
      exact ⟨_, rfl, rfl⟩
  · have hil : i < (osl m).length := by omega
    have hibl : i < (osl b).length := by omega
    have hrow : (osl (osl m)[i]).length = (osl m).length := by have := rectTo_at hk'.1 hil; rw [mAt_in hil, hc] at this; exact this
    have htk : (osl (osl m)[i]).take (osl m).length = osl (osl m)[i] := List.take_of_length_le (by omega)
    have hol : out.length = i := by rw [ho]; unfold augTo; rw [List.length_map, List.length_range]
    repeat (first | (with_reducible first | refine Way.imp ?_ | refine blk_o rfl ?_) | ((with_reducible refine WayR.imp (fun K hK => ?_)); simp (disch := first | omega | (simp only [dls]; omega)) only [std, reduceIte, reduceCtorEq, Int.reduceToNat, Nat.reduceAdd, Nat.reduceSub, Nat.reduceMul, Int.reduceAdd, Int.reduceSub, Int.reduceMul, Int.reduceNeg, fU, fM, fR, hrow, htk, encBack, List.length_map, ne_eq, not_false_eq_true, encB_snoc_row]; subst hK))
    refine ⟨(i + 1, out ++ [augV (osl m)[i] (osl b)[i]], u + 1, true), ⟨by dsimp only; omega, ?_, ?_⟩, by dsimp only; omega, Fgt.trans (Fgt.cellSnoc (b := 0) (c := 1) (f := fM) (l := out) (g := fR) (r := osl (osl m)[i] ++ [(osl b)[i]]) (x := augV (osl m)[i] (osl b)[i]) rfl rfl (by decide) rfl (by decide)) ?_⟩
    · dsimp only
      rw [ho, augTo_succ, mAt_in hil, rAt_in hibl]
    · dsimp only; cases out <;> rfl
    · rw [freeze_from]
      simp only [fzl, Nat.reduceBEq, Nat.reduceAdd, Bool.false_eq_true, if_true, if_false, reduceIte, List.set_cons_zero]
      refine Fgt.head (Nat.zero_le 1) (false :: true :: false :: false :: false :: false :: true :: true :: false :: true :: false :: false :: false :: false :: false :: false :: false :: false :: false :: false :: false :: false :: false :: false :: false :: false :: false :: false :: false :: false :: false :: false :: false :: false :: false :: false :: false :: false :: false :: false :: true :: true :: true :: []) ?hT5 ?hH5
      case hT5 => first | (simp (disch := omega) only [hds, liveT, cleanAV, cleanCell, clean1, cleanBlk, reduceIte, Int.reduceSub, Int.reduceAdd, Int.reduceNeg, List.isEmpty_cons, Bool.or_true, Bool.not_false]; done) | rfl
      case hH5 => first | (simp (disch := omega) only [hds, liveT, cleanAV, cleanCell, clean1, cleanBlk, reduceIte, Int.reduceSub, Int.reduceAdd, Int.reduceNeg, List.isEmpty_cons, Bool.or_true, Bool.not_false]; done) | rfl

theorem aug_len (m : MM) (b : VV) : (osl (augM m b)).length = (osl m).length := by
  unfold augM; rw [osl_rowO]; unfold augTo; rw [List.length_map, List.length_range]
theorem aug_at (m : MM) (b : VV) {i : Nat} (hi : i < (osl m).length) : mAt (augM m b) i = augV (mAt m i) (rAt b i) := by
  rw [mAt_in (by rw [aug_len]; exact hi)]
  unfold augM
  rw [List.getElem_of_eq (osl_rowO _) _]
  unfold augTo
  rw [List.getElem_map, List.getElem_range]
theorem aug_row (m : MM) (b : VV) (hk : rectTo m (osl m).length = true) (hc : cols m = (osl m).length) {i : Nat} (hi : i < (osl m).length) : (osl (mAt (augM m b) i)).length = (osl m).length + 1 := by
  rw [aug_at m b hi]
  unfold augV
  rw [osl_some, List.length_append, rectTo_at hk hi, hc]
  rfl
theorem aug_cols (m : MM) (b : VV) (hk : rectTo m (osl m).length = true) (hc : cols m = (osl m).length) (h0 : (osl m).length ≠ 0) : cols (augM m b) = (osl m).length + 1 := by
  unfold cols; exact aug_row m b hk hc (by omega)
theorem aug_ok (m : MM) (b : VV) (hk : rectTo m (osl m).length = true) (hc : cols m = (osl m).length) (hlt : (osl m).length < 200) : okM (augM m b) = true := by
  by_cases h0 : (osl m).length = 0
  · have : augM m b = none := by unfold augM augTo; rw [h0]; rfl
    rw [this]; decide
  · unfold okM
    rw [aug_len, aug_cols m b hk hc h0, decide_eq_true (by omega : (osl m).length ≤ 200), decide_eq_true (by omega : (osl m).length + 1 ≤ 200)]
    simp only [Bool.and_true]
    unfold rectTo
    rw [List.all_eq_true]
    intro i hi
    rw [aug_cols m b hk hc h0, aug_row m b hk hc (List.mem_range.1 hi)]
    simp
theorem aug_fits {m : MM} {b : VV} {n L : Nat} (hm : FitsM m n L) (hb : FitsV b n L) (hbl : (osl b).length = (osl m).length) : FitsM (augM m b) (n + 1) L := by
  refine ⟨by rw [aug_len]; have := hm.1; omega, fun v hv => ?_⟩
  obtain ⟨i, hi, rfl⟩ := List.mem_iff_getElem.1 hv
  rw [aug_len] at hi
  rw [← mAt_in, aug_at m b hi]
  have h1 := hm.2 _ (List.getElem_mem hi)
  rw [← mAt_in hi] at h1
  refine ⟨by unfold augV; rw [osl_some, List.length_append]; have := h1.1; simp only [List.length_cons, List.length_nil]; omega, fun r hr => ?_⟩
  unfold augV at hr
  rw [osl_some, List.mem_append] at hr
  rcases hr with hr | hr
  · exact h1.2 r hr
  · rw [List.mem_singleton.1 hr, rAt_in (by omega)]; exact hb.2 _ (List.getElem_mem _)

/-- 'Solve' of a square and a row as long. -/
theorem solve_full (m : MM) (b : VV) (n L : Nat) (hm : FitsM m n L) (hb : FitsV b n L) (hn : n ≤ 999) (hL : 1 ≤ L) (hL2 : L ≤ 1000) (hk : okM m = true) (hc : cols m = (osl m).length) (hbl : (osl b).length = (osl m).length) (hlt : (osl m).length < 200)
    (hB : 4 ^ (osl m).length * (L + 1) ≤ 1000000) : PureC Try.prog 63 [aM m, aV b] (.ret (solveV m b)) := by
  have hk' := hk
  unfold okM at hk'
  simp only [Bool.and_eq_true] at hk'
  have hak := aug_ok m b hk'.1 hc hlt
  have haf := aug_fits hm hb hbl
  have hred := reduce_C (augM m b) (n + 1) L haf (by omega) hL hak (by rw [aug_len]; exact hB)
  have hw := (red_fits (wf_qM haf hak hL) hL (cols (augM m b)) (Nat.le_refl _)).2.1
  refine solve_C m b n L hm hb (by omega) hL hL2 hk hc hbl hlt hred ?_ ?_
  · intro r hr
    have h1 := (hw.2 r hr).1
    by_cases h0 : (osl m).length = 0
    · have := hw.1
      rw [aug_len, h0] at this
      have he : (augRed m b).1 = [] := List.length_eq_zero_iff.1 this
      rw [he] at hr; simp at hr
    · rw [h1]; exact aug_cols m b hk'.1 hc h0
  · have := hw.1; rw [aug_len] at this; exact this

end Go.Proofs.Ytdhkdnmefeeclaa
set_option linter.unusedSimpArgs false
set_option linter.unusedVariables false
set_option maxRecDepth 100000
set_option maxHeartbeats 4000000
namespace Go.Proofs.Ytdhkdnmefeeclaa
open Go Go.Am Go.Proofs Go.RowKit Go.Off

def lsidesV (m : MM) : AV := if rectTo m (osl m).length then .tup [aI ((osl m).length : Nat), aI (cols m : Nat), aB true] else .tup [aI 0, aI 0, aB false]

abbrev c53_k1 : CC := (.seq (.seq (.reg [⟨(some 21), none, (.mv (.tmp 0))⟩, ⟨(some 22), none, (.len false (.tmp 21))⟩, ⟨(some 23), none, (.bin .eql (.tmp 22) (.const (.int .i64 (0))))⟩]) (.cond (.tmp 23) (.seq (.reg [⟨(some 2), none, (.mv (.const (.int .i64 (0))))⟩, ⟨(some 3), none, (.mv (.const (.int .i64 (0))))⟩, ⟨(some 4), none, (.mv (.const (.bool true)))⟩]) .ret) .skip)) (.seq (.reg [⟨(some 24), none, (.mv (.tmp 0))⟩, ⟨(some 25), none, (.len false (.tmp 24))⟩, ⟨(some 26), none, (.mv (.tmp 0))⟩, ⟨(some 27), none, (.iaddr 1 none (.tmp 26) (.const (.int .i64 (0))))⟩, ⟨(some 28), none, (.load 1 false (.tmp 27))⟩, ⟨(some 29), none, (.len false (.tmp 28))⟩, ⟨(some 2), none, (.mv (.tmp 25))⟩, ⟨(some 3), none, (.mv (.tmp 29))⟩, ⟨(some 4), none, (.mv (.const (.bool true)))⟩]) .ret))
abbrev c53_b1 : CC := (.seq (.reg [⟨(some 10), none, (.bin .lss (.tmp 9) (.tmp 8))⟩]) (.seq (.cond (.tmp 10) .skip (.exit 0)) (.seq (.block 1 (.seq (.reg [⟨(some 11), none, (.iaddr 1 none (.tmp 7) (.tmp 9))⟩, ⟨(some 12), none, (.load 1 false (.tmp 11))⟩, ⟨(some 6), none, (.mv (.tmp 12))⟩]) (.seq (.reg [⟨(some 13), none, (.mv (.tmp 6))⟩, ⟨(some 14), none, (.len false (.tmp 13))⟩, ⟨(some 15), none, (.mv (.tmp 0))⟩, ⟨(some 16), none, (.iaddr 1 none (.tmp 15) (.const (.int .i64 (0))))⟩, ⟨(some 17), none, (.load 1 false (.tmp 16))⟩, ⟨(some 18), none, (.len false (.tmp 17))⟩, ⟨(some 19), none, (.bin .neq (.tmp 14) (.tmp 18))⟩]) (.cond (.tmp 19) (.seq (.reg [⟨(some 2), none, (.mv (.const (.int .i64 (0))))⟩, ⟨(some 3), none, (.mv (.const (.int .i64 (0))))⟩, ⟨(some 4), none, (.mv (.const (.bool false)))⟩]) .ret) .skip)))) (.reg [⟨(some 20), none, (.bin .add (.tmp 9) (.const (.int .i64 (1))))⟩, ⟨(some 9), none, (.mv (.tmp 20))⟩]))))
abbrev c53 : CC := (.seq (.reg [⟨(some 2), none, (.mv (.const (.int .i64 (0))))⟩, ⟨(some 3), none, (.mv (.const (.int .i64 (0))))⟩, ⟨(some 4), none, (.mv (.const (.bool false)))⟩]) (.seq (.seq (.reg [⟨(some 7), none, (.mv (.tmp 0))⟩, ⟨(some 8), none, (.len false (.tmp 7))⟩, ⟨(some 9), none, (.mv (.const (.int .i64 (0))))⟩]) (.block 0 (.loop c53_b1))) c53_k1))
theorem cc53 : ccode Try.prog [] (Try.f53.body.getD .skip) = some c53 := by kernel_rfl
theorem body53 : Try.f53.body = some (Try.f53.body.getD .skip) := rfl

theorem lsides_C (m : MM) (hm : (osl m).length ≤ 9223372036854775807) : PureC Try.prog 53 [aM m] (.ret (lsidesV m)) := by
  refine pureC_of (rs := [(RV.tmp 2), (RV.tmp 3), (RV.tmp 4)]) Try.func53 (fun a w => Try.call53 a w) body53 cc53 (by kernel_rfl) ?_
  rw [Try.ntmps53]
  simp only [frs, Nat.reduceAdd, Nat.reduceSub]
  repeat (first | (with_reducible first | refine Way.imp ?_ | refine blk_o rfl ?_) | ((with_reducible refine WayR.imp (fun K hK => ?_)); simp (disch := first | omega | (simp only [dls]; omega)) only [std, reduceIte, reduceCtorEq, Int.reduceToNat, Nat.reduceAdd, Nat.reduceSub, Nat.reduceMul, Int.reduceAdd, Int.reduceSub, Int.reduceMul, Int.reduceNeg, fU]; subst hK))
  refine awp_loop (fun (zz : Nat) => ⟨(aM m :: .junk :: .junk :: .junk :: .junk :: .junk :: .junk :: aM m :: aI (osl m).length :: aI zz :: .junk :: .junk :: .junk :: .junk :: .junk :: .junk :: .junk :: .junk :: .junk :: .junk :: .junk :: .junk :: .junk :: .junk :: .junk :: .junk :: .junk :: .junk :: .junk :: .junk :: []), []⟩) (fun (zz : Nat) => zz ≤ (osl m).length ∧ rectTo m zz = true) (fun (zz : Nat) => (osl m).length - zz) (0) ?hI1 (Fgt.head (Nat.le_refl _) [true, false, false, false, false, false, false, true, true, true] ?hT1 ?hH1) ?hB1
  case hT1 => first | (simp (disch := omega) only [hds, liveT, cleanAV, cleanCell, clean1, cleanBlk, reduceIte, Int.reduceSub, Int.reduceAdd, Int.reduceNeg]; done) | rfl
  case hH1 => first | (simp (disch := omega) only [hds, liveT, cleanAV, cleanCell, clean1, cleanBlk, reduceIte, Int.reduceSub, Int.reduceAdd, Int.reduceNeg]; done) | rfl
  · exact ⟨by omega, rfl⟩
  rintro i ⟨hi, hr⟩
  by_cases him : i = (osl m).length
  · rw [him] at hr
    by_cases h0 : (osl m).length = 0
    · have hc : cols m = 0 := by unfold cols mAt; rw [List.length_eq_zero_iff.1 h0]; rfl
      have hv : lsidesV m = .tup [aI 0, aI 0, aB true] := by
        unfold lsidesV
        rw [hr, if_pos rfl, h0, hc]
        rfl
      repeat (first | (with_reducible first | refine Way.imp ?_ | refine blk_o rfl ?_) | ((with_reducible refine WayR.imp (fun K hK => ?_)); simp (disch := first | omega | (simp only [dls]; omega)) only [std, reduceIte, reduceCtorEq, Int.reduceToNat, Nat.reduceAdd, Nat.reduceSub, Nat.reduceMul, Int.reduceAdd, Int.reduceSub, Int.reduceMul, Int.reduceNeg, fU]; subst hK))
      refine ⟨_, rfl, ?_⟩
      rw [hv]
      rfl
    · have h00 : 0 < (osl m).length := by omega
      have hc : cols m = (osl (osl m)[0]).length := by unfold cols; rw [mAt_in h00]
      have hv : lsidesV m = .tup [aI ((osl m).length : Nat), aI ((osl (osl m)[0]).length : Nat), aB true] := by
        unfold lsidesV
        rw [hr, if_pos rfl, hc]
      repeat (first | (with_reducible first | refine Way.imp ?_ | refine blk_o rfl ?_) | ((with_reducible refine WayR.imp (fun K hK => ?_)); simp (disch := first | omega | (simp only [dls]; omega)) only [std, reduceIte, reduceCtorEq, Int.reduceToNat, Nat.reduceAdd, Nat.reduceSub, Nat.reduceMul, Int.reduceAdd, Int.reduceSub, Int.reduceMul, Int.reduceNeg, fU, fM]; subst hK))
      refine ⟨_, rfl, ?_⟩
      rw [hv]
      rfl
  · have hlt : i < (osl m).length := by omega
    have h00 : 0 < (osl m).length := by omega
    have hc : cols m = (osl (osl m)[0]).length := by unfold cols; rw [mAt_in h00]
    by_cases he : (osl (osl m)[i]).length = (osl (osl m)[0]).length
    · repeat (first | (with_reducible first | refine Way.imp ?_ | refine blk_o rfl ?_) | ((with_reducible refine WayR.imp (fun K hK => ?_)); simp (disch := first | omega | (simp only [dls]; omega)) only [std, reduceIte, reduceCtorEq, Int.reduceToNat, Nat.reduceAdd, Nat.reduceSub, Nat.reduceMul, Int.reduceAdd, Int.reduceSub, Int.reduceMul, Int.reduceNeg, fU, fM, he]; subst hK))
      refine ⟨(i + 1), ?hI2, ?hM2, Fgt.head (Nat.le_refl _) [true, false, false, false, false, false, false, true, true, true] ?hT2 ?hH2⟩
      case hT2 => first | (simp (disch := omega) only [hds, liveT, cleanAV, cleanCell, clean1, cleanBlk, reduceIte, Int.reduceSub, Int.reduceAdd, Int.reduceNeg]; done) | rfl
      case hH2 => first | (simp (disch := omega) only [hds, liveT, cleanAV, cleanCell, clean1, cleanBlk, reduceIte, Int.reduceSub, Int.reduceAdd, Int.reduceNeg]; done) | rfl
      · refine ⟨by omega, ?_⟩
        rw [rectTo_succ, hr, mAt_in hlt, hc, he]
        simp
      · omega
    · have hv : lsidesV m = .tup [aI 0, aI 0, aB false] := by
        have : rectTo m (osl m).length = false := by
          cases hq : rectTo m (osl m).length with
          | false => rfl
          | true => exact (he (by rw [← mAt_in hlt, ← hc]; exact rectTo_at hq hlt)).elim
        unfold lsidesV
        rw [this]
        rfl
      repeat (first | (with_reducible first | refine Way.imp ?_ | refine blk_o rfl ?_) | ((with_reducible refine WayR.imp (fun K hK => ?_)); simp (disch := first | omega | (simp only [dls]; omega)) only [std, reduceIte, reduceCtorEq, Int.reduceToNat, Nat.reduceAdd, Nat.reduceSub, Nat.reduceMul, Int.reduceAdd, Int.reduceSub, Int.reduceMul, Int.reduceNeg, fU, fM]; subst hK))
      refine ⟨_, rfl, ?_⟩
      rw [hv]
      rfl

def fewMTo (m : MM) (k : Nat) : Bool := (List.range k).all fun i => fewB (mAt m i)
def fewM (m : MM) : Bool := fewMTo m (min (osl m).length 5) && decide ((osl m).length ≤ 4)
theorem fewMTo_succ (m : MM) (k : Nat) : fewMTo m (k + 1) = (fewMTo m k && fewB (mAt m k)) := by
  unfold fewMTo; rw [List.range_succ, List.all_append]; simp

abbrev c54_k1 : CC := (.seq (.reg [⟨(some 20), none, (.mv (.tmp 0))⟩, ⟨(some 21), none, (.len false (.tmp 20))⟩, ⟨(some 22), none, (.bin .leq (.tmp 21) (.const (.int .i64 (4))))⟩, ⟨(some 2), none, (.mv (.tmp 22))⟩]) .ret)
abbrev c54_b1 : CC := (.seq (.seq (.reg [⟨(some 4), none, (.mv (.tmp 3))⟩, ⟨(some 5), none, (.mv (.tmp 0))⟩, ⟨(some 6), none, (.len false (.tmp 5))⟩, ⟨(some 7), none, (.bin .lss (.tmp 4) (.tmp 6))⟩, ⟨(some 8), none, (.mv (.tmp 7))⟩, ⟨(some 9), (some (8, true)), (.mv (.tmp 3))⟩, ⟨(some 10), (some (8, true)), (.bin .leq (.tmp 9) (.const (.int .i64 (4))))⟩, ⟨(some 11), none, (.pick (.tmp 8) (.tmp 10) (.const (.bool false)))⟩]) (.cond (.tmp 11) .skip (.exit 0))) (.seq (.block 1 (.seq (.reg [⟨(some 14), none, (.mv (.tmp 0))⟩, ⟨(some 15), none, (.mv (.tmp 3))⟩, ⟨(some 16), none, (.iaddr 1 none (.tmp 14) (.tmp 15))⟩, ⟨(some 17), none, (.load 1 false (.tmp 16))⟩, ⟨(some 18), none, (.callf (.func 26) [(.tmp 17)])⟩, ⟨(some 19), none, (.un .not (.tmp 18))⟩]) (.cond (.tmp 19) (.seq (.reg [⟨(some 2), none, (.mv (.const (.bool false)))⟩]) .ret) .skip))) (.reg [⟨(some 12), none, (.mv (.tmp 3))⟩, ⟨(some 13), none, (.bin .add (.tmp 12) (.const (.int .i64 (1))))⟩, ⟨(some 3), none, (.mv (.tmp 13))⟩])))
abbrev c54 : CC := (.seq (.reg [⟨(some 2), none, (.mv (.const (.bool false)))⟩]) (.seq (.seq (.reg [⟨(some 3), none, (.mv (.const (.int .i64 (0))))⟩]) (.block 0 (.loop c54_b1))) c54_k1))
theorem cc54 : ccode Try.prog [] (Try.f54.body.getD .skip) = some c54 := by kernel_rfl
theorem body54 : Try.f54.body = some (Try.f54.body.getD .skip) := rfl

theorem lfew_C (m : MM) : PureC Try.prog 54 [aM m] (.ret (aB (fewM m))) := by
  refine pureC_of (rs := [(RV.tmp 2)]) Try.func54 (fun a w => Try.call54 a w) body54 cc54 (by kernel_rfl) ?_
  rw [Try.ntmps54]
  simp only [frs, Nat.reduceAdd, Nat.reduceSub]
  repeat (first | (with_reducible first | refine Way.imp ?_ | refine blk_o rfl ?_) | ((with_reducible refine WayR.imp (fun K hK => ?_)); simp (disch := first | omega | (simp only [dls]; omega)) only [std, reduceIte, reduceCtorEq, Int.reduceToNat, Nat.reduceAdd, Nat.reduceSub, Nat.reduceMul, Int.reduceAdd, Int.reduceSub, Int.reduceMul, Int.reduceNeg, fU]; subst hK))
  refine awp_loop (fun (zz : Nat) => ⟨(aM m :: .junk :: .junk :: aI zz :: .junk :: .junk :: .junk :: .junk :: .junk :: .junk :: .junk :: .junk :: .junk :: .junk :: .junk :: .junk :: .junk :: .junk :: .junk :: .junk :: .junk :: .junk :: .junk :: []), []⟩) (fun (zz : Nat) => zz ≤ min (osl m).length 5 ∧ fewMTo m zz = true) (fun (zz : Nat) => 5 - zz) (0) ?hI3 (Fgt.head (Nat.le_refl _) [true, false, false, true] ?hT3 ?hH3) ?hB3
  case hT3 => first | (simp (disch := omega) only [hds, liveT, cleanAV, cleanCell, clean1, cleanBlk, reduceIte, Int.reduceSub, Int.reduceAdd, Int.reduceNeg]; done) | rfl
  case hH3 => first | (simp (disch := omega) only [hds, liveT, cleanAV, cleanCell, clean1, cleanBlk, reduceIte, Int.reduceSub, Int.reduceAdd, Int.reduceNeg]; done) | rfl
  · exact ⟨by omega, rfl⟩
  rintro i ⟨hi, hr⟩
  by_cases him : i = min (osl m).length 5
  · have hv : fewM m = decide ((osl m).length ≤ 4) := by unfold fewM; rw [← him, hr, Bool.true_and]
    rw [hv]
    by_cases h5 : (osl m).length ≤ 4
    · have hil : i = (osl m).length := by omega
      rw [decide_eq_true h5]
      repeat (first | (with_reducible first | refine Way.imp ?_ | refine blk_o rfl ?_) | ((with_reducible refine WayR.imp (fun K hK => ?_)); simp (disch := first | omega | (simp only [dls]; omega)) only [std, reduceIte, reduceCtorEq, Int.reduceToNat, Nat.reduceAdd, Nat.reduceSub, Nat.reduceMul, Int.reduceAdd, Int.reduceSub, Int.reduceMul, Int.reduceNeg, fU]; subst hK))
      exact ⟨_, rfl, rfl⟩
    · have hi5 : i = 5 := by omega
      have hi6 : ¬ ((i : Int) ≤ 4) := by omega
      rw [decide_eq_false h5]
      by_cases h6 : (osl m).length = 5
      · have hnl : ¬ i < (osl m).length := by omega
        repeat (first | (with_reducible first | refine Way.imp ?_ | refine blk_o rfl ?_) | ((with_reducible refine WayR.imp (fun K hK => ?_)); simp (disch := first | omega | (simp only [dls]; omega)) only [std, reduceIte, reduceCtorEq, Int.reduceToNat, Nat.reduceAdd, Nat.reduceSub, Nat.reduceMul, Int.reduceAdd, Int.reduceSub, Int.reduceMul, Int.reduceNeg, fU]; subst hK))
        exact ⟨_, rfl, rfl⟩
      · have hil : i < (osl m).length := by omega
        repeat (first | (with_reducible first | refine Way.imp ?_ | refine blk_o rfl ?_) | ((with_reducible refine WayR.imp (fun K hK => ?_)); simp (disch := first | omega | (simp only [dls]; omega)) only [std, reduceIte, reduceCtorEq, Int.reduceToNat, Nat.reduceAdd, Nat.reduceSub, Nat.reduceMul, Int.reduceAdd, Int.reduceSub, Int.reduceMul, Int.reduceNeg, fU]; subst hK))
        exact ⟨_, rfl, rfl⟩
  · have hlt : i < (osl m).length := by omega
    have hi4 : (i : Int) ≤ 4 := by omega
    have hfw := few_C (osl m)[i]
    cases hf : fewB (osl m)[i] with
    | true =>
      rw [hf] at hfw
      repeat (first | (with_reducible first | refine Way.imp ?_ | refine blk_o rfl ?_) | ((with_reducible refine WayR.imp (fun K hK => ?_)); simp (disch := first | omega | (simp only [dls]; omega)) only [std, reduceIte, reduceCtorEq, Int.reduceToNat, Nat.reduceAdd, Nat.reduceSub, Nat.reduceMul, Int.reduceAdd, Int.reduceSub, Int.reduceMul, Int.reduceNeg, fU, fM]; subst hK) | refine zcA (hfw) rfl rfl rfl ?_)
      refine ⟨(i + 1), ?hI4, ?hM4, Fgt.head (Nat.le_refl _) [true, false, false, true] ?hT4 ?hH4⟩
      case hT4 => first | (simp (disch := omega) only [hds, liveT, cleanAV, cleanCell, clean1, cleanBlk, reduceIte, Int.reduceSub, Int.reduceAdd, Int.reduceNeg]; done) | rfl
      case hH4 => first | (simp (disch := omega) only [hds, liveT, cleanAV, cleanCell, clean1, cleanBlk, reduceIte, Int.reduceSub, Int.reduceAdd, Int.reduceNeg]; done) | rfl
      · refine ⟨by omega, ?_⟩
        rw [fewMTo_succ, hr, mAt_in hlt, hf]
        rfl
      · omega
    | false =>
      rw [hf] at hfw
      have hv : fewM m = false := by
        have : fewMTo m (min (osl m).length 5) = false := by
          rw [Bool.eq_false_iff]
          intro h
          have := List.all_eq_true.1 h i (List.mem_range.2 (by omega))
          rw [mAt_in hlt, hf] at this
          cases this
        unfold fewM
        rw [this, Bool.false_and]
      rw [hv]
      repeat (first | (with_reducible first | refine Way.imp ?_ | refine blk_o rfl ?_) | ((with_reducible refine WayR.imp (fun K hK => ?_)); simp (disch := first | omega | (simp only [dls]; omega)) only [std, reduceIte, reduceCtorEq, Int.reduceToNat, Nat.reduceAdd, Nat.reduceSub, Nat.reduceMul, Int.reduceAdd, Int.reduceSub, Int.reduceMul, Int.reduceNeg, fU, fM]; subst hK) | refine zcA (hfw) rfl rfl rfl ?_)
      exact ⟨_, rfl, rfl⟩

end Go.Proofs.Ytdhkdnmefeeclaa
