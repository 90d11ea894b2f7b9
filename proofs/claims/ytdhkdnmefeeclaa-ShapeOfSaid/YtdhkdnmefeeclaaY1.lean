/- Walks of offcutlaw08: Few; model: Feasible, Value; shape: Back. -/
import Derived.Test.YtdhkdnmefeeclaaX6
set_option linter.unusedSimpArgs false
set_option linter.unusedVariables false
set_option linter.unnecessarySimpa false
set_option linter.unusedSimpArgs false
set_option linter.unusedVariables false
set_option maxRecDepth 100000
set_option maxHeartbeats 4000000
namespace Go.Proofs.Ytdhkdnmefeeclaa
open Go Go.Am Go.Proofs Go.RowKit Go.Off

theorem lenAV_s (h : List Blk) (s : List UInt8) : lenAV h true (.one (.c (.str s))) = some s.length := rfl
def shortS (m : MD) (i : Nat) : Bool := decide (((osl m.vars).getD i []).length ≤ 20)
def shortRow (m : MD) (i : Nat) : Bool := decide ((rwAt m i).name.length ≤ 20) && (fewB (rwAt m i).coef && fewB (some [(rwAt m i).b]))
def allI (q : Nat → Bool) (n : Nat) : Bool := (List.range n).all q
theorem allI_succ (q : Nat → Bool) (n : Nat) : allI q (n + 1) = (allI q n && q n) := by unfold allI; rw [List.range_succ, List.all_append]; simp
theorem allI_false {q : Nat → Bool} {k n : Nat} (hk : k < n) (h : q k = false) : allI q n = false := by
  unfold allI
  rw [List.all_eq_false]
  exact ⟨k, List.mem_range.2 hk, by simp [h]⟩
theorem allI_at {q : Nat → Bool} {k n : Nat} (h : allI q n = true) (hk : k < n) : q k = true := List.all_eq_true.1 h k (List.mem_range.2 hk)
def fewMd (m : MD) : Bool := allI (shortS m) (min (osl m.vars).length 9) && (allI (shortRow m) (min (osl m.rows).length 7) && (decide ((osl m.vars).length ≤ 8) && (decide ((osl m.rows).length ≤ 6) && fewB m.cost)))

abbrev c71_k1 : CC := (.seq (.reg [⟨(some 63), none, (.faddr 0 (.tmp 1))⟩, ⟨(some 64), none, (.load 1 false (.tmp 63))⟩, ⟨(some 65), none, (.len false (.tmp 64))⟩, ⟨(some 66), none, (.bin .leq (.tmp 65) (.const (.int .i64 (8))))⟩, ⟨(some 67), none, (.mv (.tmp 66))⟩, ⟨(some 68), (some (67, true)), (.faddr 2 (.tmp 1))⟩, ⟨(some 69), (some (67, true)), (.load 1 false (.tmp 68))⟩, ⟨(some 70), (some (67, true)), (.len false (.tmp 69))⟩, ⟨(some 71), (some (67, true)), (.bin .leq (.tmp 70) (.const (.int .i64 (6))))⟩, ⟨(some 72), none, (.pick (.tmp 67) (.tmp 71) (.const (.bool false)))⟩, ⟨(some 73), none, (.mv (.tmp 72))⟩, ⟨(some 74), (some (73, true)), (.faddr 1 (.tmp 1))⟩, ⟨(some 75), (some (73, true)), (.load 1 false (.tmp 74))⟩, ⟨(some 76), (some (73, true)), (.callf (.func 26) [(.tmp 75)])⟩, ⟨(some 77), none, (.pick (.tmp 73) (.tmp 76) (.const (.bool false)))⟩, ⟨(some 2), none, (.mv (.tmp 77))⟩]) .ret)
abbrev c71_b1 : CC := (.seq (.seq (.reg [⟨(some 23), none, (.mv (.tmp 4))⟩, ⟨(some 24), none, (.faddr 2 (.tmp 1))⟩, ⟨(some 25), none, (.load 1 false (.tmp 24))⟩, ⟨(some 26), none, (.len false (.tmp 25))⟩, ⟨(some 27), none, (.bin .lss (.tmp 23) (.tmp 26))⟩, ⟨(some 28), none, (.mv (.tmp 27))⟩, ⟨(some 29), (some (28, true)), (.mv (.tmp 4))⟩, ⟨(some 30), (some (28, true)), (.bin .leq (.tmp 29) (.const (.int .i64 (6))))⟩, ⟨(some 31), none, (.pick (.tmp 28) (.tmp 30) (.const (.bool false)))⟩]) (.cond (.tmp 31) .skip (.exit 2))) (.seq (.block 3 (.seq (.reg [⟨(some 34), none, (.faddr 2 (.tmp 1))⟩, ⟨(some 35), none, (.load 1 false (.tmp 34))⟩, ⟨(some 36), none, (.mv (.tmp 4))⟩, ⟨(some 37), none, (.iaddr 6 none (.tmp 35) (.tmp 36))⟩, ⟨(some 38), none, (.faddr 0 (.tmp 37))⟩, ⟨(some 39), none, (.load 1 false (.tmp 38))⟩, ⟨(some 40), none, (.len true (.tmp 39))⟩, ⟨(some 41), none, (.bin .gtr (.tmp 40) (.const (.int .i64 (20))))⟩, ⟨(some 42), none, (.mv (.tmp 41))⟩, ⟨(some 43), (some (42, false)), (.faddr 2 (.tmp 1))⟩, ⟨(some 44), (some (42, false)), (.load 1 false (.tmp 43))⟩, ⟨(some 45), (some (42, false)), (.mv (.tmp 4))⟩, ⟨(some 46), (some (42, false)), (.iaddr 6 none (.tmp 44) (.tmp 45))⟩, ⟨(some 47), (some (42, false)), (.faddr 1 (.tmp 46))⟩, ⟨(some 48), (some (42, false)), (.load 1 false (.tmp 47))⟩, ⟨(some 49), (some (42, false)), (.callf (.func 26) [(.tmp 48)])⟩, ⟨(some 50), (some (42, false)), (.un .not (.tmp 49))⟩, ⟨(some 51), none, (.pick (.tmp 42) (.const (.bool true)) (.tmp 50))⟩, ⟨(some 52), none, (.mv (.tmp 51))⟩, ⟨(some 53), (some (52, false)), (.faddr 2 (.tmp 1))⟩, ⟨(some 54), (some (52, false)), (.load 1 false (.tmp 53))⟩, ⟨(some 55), (some (52, false)), (.mv (.tmp 4))⟩, ⟨(some 56), (some (52, false)), (.iaddr 6 none (.tmp 54) (.tmp 55))⟩, ⟨(some 57), (some (52, false)), (.faddr 3 (.tmp 56))⟩, ⟨(some 58), (some (52, false)), (.load 3 true (.tmp 57))⟩, ⟨(some 59), (some (52, false)), (.mkrow 40 3 [(.tmp 58)])⟩, ⟨(some 60), (some (52, false)), (.callf (.func 26) [(.tmp 59)])⟩, ⟨(some 61), (some (52, false)), (.un .not (.tmp 60))⟩, ⟨(some 62), none, (.pick (.tmp 52) (.const (.bool true)) (.tmp 61))⟩]) (.cond (.tmp 62) (.seq (.reg [⟨(some 2), none, (.mv (.const (.bool false)))⟩]) .ret) .skip))) (.reg [⟨(some 32), none, (.mv (.tmp 4))⟩, ⟨(some 33), none, (.bin .add (.tmp 32) (.const (.int .i64 (1))))⟩, ⟨(some 4), none, (.mv (.tmp 33))⟩])))
abbrev c71_k2 : CC := (.seq (.seq (.reg [⟨(some 4), none, (.mv (.const (.int .i64 (0))))⟩]) (.block 2 (.loop c71_b1))) c71_k1)
abbrev c71_b2 : CC := (.seq (.seq (.reg [⟨(some 5), none, (.mv (.tmp 3))⟩, ⟨(some 6), none, (.faddr 0 (.tmp 1))⟩, ⟨(some 7), none, (.load 1 false (.tmp 6))⟩, ⟨(some 8), none, (.len false (.tmp 7))⟩, ⟨(some 9), none, (.bin .lss (.tmp 5) (.tmp 8))⟩, ⟨(some 10), none, (.mv (.tmp 9))⟩, ⟨(some 11), (some (10, true)), (.mv (.tmp 3))⟩, ⟨(some 12), (some (10, true)), (.bin .leq (.tmp 11) (.const (.int .i64 (8))))⟩, ⟨(some 13), none, (.pick (.tmp 10) (.tmp 12) (.const (.bool false)))⟩]) (.cond (.tmp 13) .skip (.exit 0))) (.seq (.block 1 (.seq (.reg [⟨(some 16), none, (.faddr 0 (.tmp 1))⟩, ⟨(some 17), none, (.load 1 false (.tmp 16))⟩, ⟨(some 18), none, (.mv (.tmp 3))⟩, ⟨(some 19), none, (.iaddr 1 none (.tmp 17) (.tmp 18))⟩, ⟨(some 20), none, (.load 1 false (.tmp 19))⟩, ⟨(some 21), none, (.len true (.tmp 20))⟩, ⟨(some 22), none, (.bin .gtr (.tmp 21) (.const (.int .i64 (20))))⟩]) (.cond (.tmp 22) (.seq (.reg [⟨(some 2), none, (.mv (.const (.bool false)))⟩]) .ret) .skip))) (.reg [⟨(some 14), none, (.mv (.tmp 3))⟩, ⟨(some 15), none, (.bin .add (.tmp 14) (.const (.int .i64 (1))))⟩, ⟨(some 3), none, (.mv (.tmp 15))⟩])))
abbrev c71 : CC := (.seq (.reg [⟨(some 1), none, (.box 91 (.tmp 0))⟩, ⟨(some 2), none, (.mv (.const (.bool false)))⟩]) (.seq (.seq (.reg [⟨(some 3), none, (.mv (.const (.int .i64 (0))))⟩]) (.block 0 (.loop c71_b2))) c71_k2))
theorem cc71 : ccode Try.prog [] (Try.f71.body.getD .skip) = some c71 := by kernel_rfl
theorem body71 : Try.f71.body = some (Try.f71.body.getD .skip) := rfl

theorem fewMd_C (m : MD) : PureC Try.prog 71 [aMd m] (.ret (aB (fewMd m))) := by
  unfold fewMd
  refine pureC_of (rs := [(RV.tmp 2)]) Try.func71 (fun a w => Try.call71 a w) body71 cc71 (by kernel_rfl) ?_
  rw [Try.ntmps71]
  simp only [frs, Nat.reduceAdd, Nat.reduceSub]
  repeat (first | (with_reducible first | refine Way.imp ?_ | refine blk_o rfl ?_) | ((with_reducible refine WayR.imp (fun K hK => ?_)); simp (disch := first | omega | (simp only [dls]; omega)) only [std, reduceIte, reduceCtorEq, Int.reduceToNat, Nat.reduceAdd, Nat.reduceSub, Nat.reduceMul, Int.reduceAdd, Int.reduceSub, Int.reduceMul, Int.reduceNeg, fU, lenAV_s]; subst hK))
  refine awp_loop (fun (zz : Nat) => ⟨(.junk :: .one (.ptr 0 0 0 0) :: .junk :: aI zz :: .junk :: .junk :: .junk :: .junk :: .junk :: .junk :: .junk :: .junk :: .junk :: .junk :: .junk :: .junk :: .junk :: .junk :: .junk :: .junk :: .junk :: .junk :: .junk :: .junk :: .junk :: .junk :: .junk :: .junk :: .junk :: .junk :: .junk :: .junk :: .junk :: .junk :: .junk :: .junk :: .junk :: .junk :: .junk :: .junk :: .junk :: .junk :: .junk :: .junk :: .junk :: .junk :: .junk :: .junk :: .junk :: .junk :: .junk :: .junk :: .junk :: .junk :: .junk :: .junk :: .junk :: .junk :: .junk :: .junk :: .junk :: .junk :: .junk :: .junk :: .junk :: .junk :: .junk :: .junk :: .junk :: .junk :: .junk :: .junk :: .junk :: .junk :: .junk :: .junk :: .junk :: .junk :: []), [⟨0, 91, 3, [[.c (encSl 1 fW m.vars), .c (vr m.cost), .c (encSl 6 fRow m.rows)]], true, true⟩]⟩) (fun (zz : Nat) => zz ≤ min (osl m.vars).length 9 ∧ allI (shortS m) zz = true) (fun (zz : Nat) => 10 - zz) (0) ?hI1 (Fgt.head (Nat.zero_le 1) [false, true, false, true] ?hT1 ?hH1) ?hB1
  case hT1 => first | (simp (disch := omega) only [hds, liveT, cleanAV, cleanCell, clean1, cleanBlk, reduceIte, Int.reduceSub, Int.reduceAdd, Int.reduceNeg]; done) | rfl
  case hH1 => first | (simp (disch := omega) only [hds, liveT, cleanAV, cleanCell, clean1, cleanBlk, reduceIte, Int.reduceSub, Int.reduceAdd, Int.reduceNeg]; done) | rfl
  · exact ⟨Nat.zero_le _, rfl⟩
  rintro i ⟨hi, hs⟩
  by_cases h9 : i = min (osl m.vars).length 9
  case neg =>
    have h1 : i < (osl m.vars).length := by omega
    have h2 : (i : Int) ≤ 8 := by omega
    have hsh : shortS m i = decide ((osl m.vars)[i].length ≤ 20) := by unfold shortS; rw [List.getD_eq_getElem?_getD, List.getElem?_eq_getElem h1]; rfl
    by_cases h3 : (osl m.vars)[i].length ≤ 20
    · rw [decide_eq_true h3] at hsh
      repeat (first | (with_reducible first | refine Way.imp ?_ | refine blk_o rfl ?_) | ((with_reducible refine WayR.imp (fun K hK => ?_)); simp (disch := first | omega | (simp only [dls]; omega)) only [std, reduceIte, reduceCtorEq, Int.reduceToNat, Nat.reduceAdd, Nat.reduceSub, Nat.reduceMul, Int.reduceAdd, Int.reduceSub, Int.reduceMul, Int.reduceNeg, fU, lenAV_s, fW]; subst hK))
      refine ⟨(i + 1), ?hI2, ?hM2, Fgt.head (Nat.zero_le 1) [false, true, false, true] ?hT2 ?hH2⟩
      case hT2 => first | (simp (disch := omega) only [hds, liveT, cleanAV, cleanCell, clean1, cleanBlk, reduceIte, Int.reduceSub, Int.reduceAdd, Int.reduceNeg]; done) | rfl
      case hH2 => first | (simp (disch := omega) only [hds, liveT, cleanAV, cleanCell, clean1, cleanBlk, reduceIte, Int.reduceSub, Int.reduceAdd, Int.reduceNeg]; done) | rfl
      · exact ⟨by omega, by rw [allI_succ, hs, hsh]; rfl⟩
      · show 10 - (i + 1) < 10 - i; omega
    · rw [decide_eq_false h3] at hsh
      rw [allI_false (show i < min (osl m.vars).length 9 by omega) hsh]
      repeat (first | (with_reducible first | refine Way.imp ?_ | refine blk_o rfl ?_) | ((with_reducible refine WayR.imp (fun K hK => ?_)); simp (disch := first | omega | (simp only [dls]; omega)) only [std, reduceIte, reduceCtorEq, Int.reduceToNat, Nat.reduceAdd, Nat.reduceSub, Nat.reduceMul, Int.reduceAdd, Int.reduceSub, Int.reduceMul, Int.reduceNeg, fU, lenAV_s, fW]; subst hK))
      exact ⟨_, rfl, rfl⟩
  rw [← h9, hs, Bool.true_and]
  have fin : (i < (osl m.vars).length ∧ ¬ ((i : Int) ≤ 8)) ∨ ¬ i < (osl m.vars).length := by omega
  rcases fin with ⟨e1, e2⟩ | e1
  · skip
    repeat (first | (with_reducible first | refine Way.imp ?_ | refine blk_o rfl ?_) | ((with_reducible refine WayR.imp (fun K hK => ?_)); simp (disch := first | omega | (simp only [dls]; omega)) only [std, reduceIte, reduceCtorEq, Int.reduceToNat, Nat.reduceAdd, Nat.reduceSub, Nat.reduceMul, Int.reduceAdd, Int.reduceSub, Int.reduceMul, Int.reduceNeg, fU, lenAV_s]; subst hK))
    refine awp_loop (fun (zz : Nat) => ⟨(.junk :: .one (.ptr 0 0 0 0) :: .junk :: .junk :: aI zz :: .junk :: .junk :: .junk :: .junk :: .junk :: .junk :: .junk :: .junk :: .junk :: .junk :: .junk :: .junk :: .junk :: .junk :: .junk :: .junk :: .junk :: .junk :: .junk :: .junk :: .junk :: .junk :: .junk :: .junk :: .junk :: .junk :: .junk :: .junk :: .junk :: .junk :: .junk :: .junk :: .junk :: .junk :: .junk :: .junk :: .junk :: .junk :: .junk :: .junk :: .junk :: .junk :: .junk :: .junk :: .junk :: .junk :: .junk :: .junk :: .junk :: .junk :: .junk :: .junk :: .junk :: .junk :: .junk :: .junk :: .junk :: .junk :: .junk :: .junk :: .junk :: .junk :: .junk :: .junk :: .junk :: .junk :: .junk :: .junk :: .junk :: .junk :: .junk :: .junk :: .junk :: []), [⟨0, 91, 3, [[.c (encSl 1 fW m.vars), .c (vr m.cost), .c (encSl 6 fRow m.rows)]], true, true⟩]⟩) (fun (zz : Nat) => zz ≤ min (osl m.rows).length 7 ∧ allI (shortRow m) zz = true) (fun (zz : Nat) => 10 - zz) (0) ?hI3 (Fgt.head (Nat.zero_le 1) [false, true, false, false, true] ?hT3 ?hH3) ?hB3
    case hT3 => first | (simp (disch := omega) only [hds, liveT, cleanAV, cleanCell, clean1, cleanBlk, reduceIte, Int.reduceSub, Int.reduceAdd, Int.reduceNeg]; done) | rfl
    case hH3 => first | (simp (disch := omega) only [hds, liveT, cleanAV, cleanCell, clean1, cleanBlk, reduceIte, Int.reduceSub, Int.reduceAdd, Int.reduceNeg]; done) | rfl
    · exact ⟨Nat.zero_le _, rfl⟩
    rintro j ⟨hj, ht⟩
    by_cases h7 : j = min (osl m.rows).length 7
    case neg =>
      have h1 : j < (osl m.rows).length := by omega
      have h2 : (j : Int) ≤ 6 := by omega
      have hsh : shortRow m j = (decide ((osl m.rows)[j].name.length ≤ 20) && (fewB (osl m.rows)[j].coef && fewB (some [(osl m.rows)[j].b]))) := by unfold shortRow; rw [rwAt_in h1]
      have hf1 := few_C (osl m.rows)[j].coef
      have hf2 := few_C (some [(osl m.rows)[j].b])
      by_cases h3 : (osl m.rows)[j].name.length ≤ 20
      case neg =>
        rw [decide_eq_false h3, Bool.false_and] at hsh
        rw [allI_false (show j < min (osl m.rows).length 7 by omega) hsh]
        repeat (first | (with_reducible first | refine Way.imp ?_ | refine blk_o rfl ?_) | ((with_reducible refine WayR.imp (fun K hK => ?_)); simp (disch := first | omega | (simp only [dls]; omega)) only [std, reduceIte, reduceCtorEq, Int.reduceToNat, Nat.reduceAdd, Nat.reduceSub, Nat.reduceMul, Int.reduceAdd, Int.reduceSub, Int.reduceMul, Int.reduceNeg, fU, lenAV_s, fRow]; subst hK))
        exact ⟨_, rfl, rfl⟩
      rw [decide_eq_true h3, Bool.true_and] at hsh
      cases h4 : fewB (osl m.rows)[j].coef with
      | false =>
        rw [h4] at hf1 hsh
        rw [allI_false (show j < min (osl m.rows).length 7 by omega) hsh]
        repeat (first | (with_reducible first | refine Way.imp ?_ | refine blk_o rfl ?_) | ((with_reducible refine WayR.imp (fun K hK => ?_)); simp (disch := first | omega | (simp only [dls]; omega)) only [std, reduceIte, reduceCtorEq, Int.reduceToNat, Nat.reduceAdd, Nat.reduceSub, Nat.reduceMul, Int.reduceAdd, Int.reduceSub, Int.reduceMul, Int.reduceNeg, fU, lenAV_s, fRow]; subst hK) | (apply call_any_g (hf1) rfl; (case hg => simp (disch := first | omega | (simp only [dls]; omega)) only [std, reduceIte, reduceCtorEq, Int.reduceToNat, Nat.reduceAdd, Nat.reduceSub, Nat.reduceMul, Int.reduceAdd, Int.reduceSub, Int.reduceMul, Int.reduceNeg, fU, lenAV_s, fRow]); (case hcl => (simp only [evs, St.ev, constAV, evl]; (repeat (first | exact closeAVs_nil | (apply closeAVs_cons; (first | (refine close_own3 rfl (by decide)) | (refine close_ownO rfl (by decide) ?_; assumption) | rfl)))); done)); (case hu => rfl)))
        exact ⟨_, rfl, rfl⟩
      | true =>
        rw [h4] at hf1 hsh
        cases h5 : fewB (some [(osl m.rows)[j].b]) with
        | false =>
          rw [h5] at hf2 hsh
          rw [allI_false (show j < min (osl m.rows).length 7 by omega) hsh]
          repeat (first | (with_reducible first | refine Way.imp ?_ | refine blk_o rfl ?_) | ((with_reducible refine WayR.imp (fun K hK => ?_)); simp (disch := first | omega | (simp only [dls]; omega)) only [std, reduceIte, reduceCtorEq, Int.reduceToNat, Nat.reduceAdd, Nat.reduceSub, Nat.reduceMul, Int.reduceAdd, Int.reduceSub, Int.reduceMul, Int.reduceNeg, fU, lenAV_s, fRow]; subst hK) | (apply call_any_g (hf1) rfl; (case hg => simp (disch := first | omega | (simp only [dls]; omega)) only [std, reduceIte, reduceCtorEq, Int.reduceToNat, Nat.reduceAdd, Nat.reduceSub, Nat.reduceMul, Int.reduceAdd, Int.reduceSub, Int.reduceMul, Int.reduceNeg, fU, lenAV_s, fRow]); (case hcl => (simp only [evs, St.ev, constAV, evl]; (repeat (first | exact closeAVs_nil | (apply closeAVs_cons; (first | (refine close_own3 rfl (by decide)) | (refine close_ownO rfl (by decide) ?_; assumption) | rfl)))); done)); (case hu => rfl)) | (apply call_flat_g (by simp (disch := first | omega | (simp only [dls]; omega)) only [std, reduceIte, reduceCtorEq, Int.reduceToNat, Nat.reduceAdd, Nat.reduceSub, Nat.reduceMul, Int.reduceAdd, Int.reduceSub, Int.reduceMul, Int.reduceNeg, fU, lenAV_s, fRow]) (hf2) rfl; (case hcl => (simp only [evs, St.ev, constAV, evl]; (repeat (first | exact closeAVs_nil | (apply closeAVs_cons; (first | (refine close_own3 rfl (by decide)) | (refine close_ownO rfl (by decide) ?_; assumption) | rfl)))); done)); (case hf => rfl)))
          exact ⟨_, rfl, rfl⟩
        | true =>
          rw [h5] at hf2 hsh
          repeat (first | (with_reducible first | refine Way.imp ?_ | refine blk_o rfl ?_) | ((with_reducible refine WayR.imp (fun K hK => ?_)); simp (disch := first | omega | (simp only [dls]; omega)) only [std, reduceIte, reduceCtorEq, Int.reduceToNat, Nat.reduceAdd, Nat.reduceSub, Nat.reduceMul, Int.reduceAdd, Int.reduceSub, Int.reduceMul, Int.reduceNeg, fU, lenAV_s, fRow]; subst hK) | (apply call_any_g (hf1) rfl; (case hg => simp (disch := first | omega | (simp only [dls]; omega)) only [std, reduceIte, reduceCtorEq, Int.reduceToNat, Nat.reduceAdd, Nat.reduceSub, Nat.reduceMul, Int.reduceAdd, Int.reduceSub, Int.reduceMul, Int.reduceNeg, fU, lenAV_s, fRow]); (case hcl => (simp only [evs, St.ev, constAV, evl]; (repeat (first | exact closeAVs_nil | (apply closeAVs_cons; (first | (refine close_own3 rfl (by decide)) | (refine close_ownO rfl (by decide) ?_; assumption) | rfl)))); done)); (case hu => rfl)) | (apply call_flat_g (by simp (disch := first | omega | (simp only [dls]; omega)) only [std, reduceIte, reduceCtorEq, Int.reduceToNat, Nat.reduceAdd, Nat.reduceSub, Nat.reduceMul, Int.reduceAdd, Int.reduceSub, Int.reduceMul, Int.reduceNeg, fU, lenAV_s, fRow]) (hf2) rfl; (case hcl => (simp only [evs, St.ev, constAV, evl]; (repeat (first | exact closeAVs_nil | (apply closeAVs_cons; (first | (refine close_own3 rfl (by decide)) | (refine close_ownO rfl (by decide) ?_; assumption) | rfl)))); done)); (case hf => rfl)))
          refine ⟨(j + 1), ?hI4, ?hM4, Fgt.head (Nat.zero_le 1) [false, true, false, false, true] ?hT4 ?hH4⟩
          case hT4 => first | (simp (disch := omega) only [hds, liveT, cleanAV, cleanCell, clean1, cleanBlk, reduceIte, Int.reduceSub, Int.reduceAdd, Int.reduceNeg]; done) | rfl
          case hH4 => first | (simp (disch := omega) only [hds, liveT, cleanAV, cleanCell, clean1, cleanBlk, reduceIte, Int.reduceSub, Int.reduceAdd, Int.reduceNeg]; done) | rfl
          · exact ⟨by omega, by rw [allI_succ, ht, hsh]; rfl⟩
          · show 10 - (j + 1) < 10 - j; omega
    rw [← h7, ht, Bool.true_and]
    have hfc := few_C m.cost
    have fin2 : (j < (osl m.rows).length ∧ ¬ ((j : Int) ≤ 6)) ∨ ¬ j < (osl m.rows).length := by omega
    by_cases k1 : (osl m.vars).length ≤ 8
    · exfalso; omega
    · rw [decide_eq_false k1, Bool.false_and]
      rcases fin2 with ⟨e3, e4⟩ | e4
      · repeat (first | (with_reducible first | refine Way.imp ?_ | refine blk_o rfl ?_) | ((with_reducible refine WayR.imp (fun K hK => ?_)); simp (disch := first | omega | (simp only [dls]; omega)) only [std, reduceIte, reduceCtorEq, Int.reduceToNat, Nat.reduceAdd, Nat.reduceSub, Nat.reduceMul, Int.reduceAdd, Int.reduceSub, Int.reduceMul, Int.reduceNeg, fU, lenAV_s]; subst hK))
        exact ⟨_, rfl, rfl⟩
      · repeat (first | (with_reducible first | refine Way.imp ?_ | refine blk_o rfl ?_) | ((with_reducible refine WayR.imp (fun K hK => ?_)); simp (disch := first | omega | (simp only [dls]; omega)) only [std, reduceIte, reduceCtorEq, Int.reduceToNat, Nat.reduceAdd, Nat.reduceSub, Nat.reduceMul, Int.reduceAdd, Int.reduceSub, Int.reduceMul, Int.reduceNeg, fU, lenAV_s]; subst hK))
        exact ⟨_, rfl, rfl⟩
  · skip
    repeat (first | (with_reducible first | refine Way.imp ?_ | refine blk_o rfl ?_) | ((with_reducible refine WayR.imp (fun K hK => ?_)); simp (disch := first | omega | (simp only [dls]; omega)) only [std, reduceIte, reduceCtorEq, Int.reduceToNat, Nat.reduceAdd, Nat.reduceSub, Nat.reduceMul, Int.reduceAdd, Int.reduceSub, Int.reduceMul, Int.reduceNeg, fU, lenAV_s]; subst hK))
    refine awp_loop (fun (zz : Nat) => ⟨(.junk :: .one (.ptr 0 0 0 0) :: .junk :: .junk :: aI zz :: .junk :: .junk :: .junk :: .junk :: .junk :: .junk :: .junk :: .junk :: .junk :: .junk :: .junk :: .junk :: .junk :: .junk :: .junk :: .junk :: .junk :: .junk :: .junk :: .junk :: .junk :: .junk :: .junk :: .junk :: .junk :: .junk :: .junk :: .junk :: .junk :: .junk :: .junk :: .junk :: .junk :: .junk :: .junk :: .junk :: .junk :: .junk :: .junk :: .junk :: .junk :: .junk :: .junk :: .junk :: .junk :: .junk :: .junk :: .junk :: .junk :: .junk :: .junk :: .junk :: .junk :: .junk :: .junk :: .junk :: .junk :: .junk :: .junk :: .junk :: .junk :: .junk :: .junk :: .junk :: .junk :: .junk :: .junk :: .junk :: .junk :: .junk :: .junk :: .junk :: .junk :: []), [⟨0, 91, 3, [[.c (encSl 1 fW m.vars), .c (vr m.cost), .c (encSl 6 fRow m.rows)]], true, true⟩]⟩) (fun (zz : Nat) => zz ≤ min (osl m.rows).length 7 ∧ allI (shortRow m) zz = true) (fun (zz : Nat) => 10 - zz) (0) ?hI5 (Fgt.head (Nat.zero_le 1) [false, true, false, false, true] ?hT5 ?hH5) ?hB5
    case hT5 => first | (simp (disch := omega) only [hds, liveT, cleanAV, cleanCell, clean1, cleanBlk, reduceIte, Int.reduceSub, Int.reduceAdd, Int.reduceNeg]; done) | rfl
    case hH5 => first | (simp (disch := omega) only [hds, liveT, cleanAV, cleanCell, clean1, cleanBlk, reduceIte, Int.reduceSub, Int.reduceAdd, Int.reduceNeg]; done) | rfl
    · exact ⟨Nat.zero_le _, rfl⟩
    rintro j ⟨hj, ht⟩
    by_cases h7 : j = min (osl m.rows).length 7
    case neg =>
      have h1 : j < (osl m.rows).length := by omega
      have h2 : (j : Int) ≤ 6 := by omega
      have hsh : shortRow m j = (decide ((osl m.rows)[j].name.length ≤ 20) && (fewB (osl m.rows)[j].coef && fewB (some [(osl m.rows)[j].b]))) := by unfold shortRow; rw [rwAt_in h1]
      have hf1 := few_C (osl m.rows)[j].coef
      have hf2 := few_C (some [(osl m.rows)[j].b])
      by_cases h3 : (osl m.rows)[j].name.length ≤ 20
      case neg =>
        rw [decide_eq_false h3, Bool.false_and] at hsh
        rw [allI_false (show j < min (osl m.rows).length 7 by omega) hsh]
        repeat (first | (with_reducible first | refine Way.imp ?_ | refine blk_o rfl ?_) | ((with_reducible refine WayR.imp (fun K hK => ?_)); simp (disch := first | omega | (simp only [dls]; omega)) only [std, reduceIte, reduceCtorEq, Int.reduceToNat, Nat.reduceAdd, Nat.reduceSub, Nat.reduceMul, Int.reduceAdd, Int.reduceSub, Int.reduceMul, Int.reduceNeg, fU, lenAV_s, fRow]; subst hK))
        exact ⟨_, rfl, rfl⟩
      rw [decide_eq_true h3, Bool.true_and] at hsh
      cases h4 : fewB (osl m.rows)[j].coef with
      | false =>
        rw [h4] at hf1 hsh
        rw [allI_false (show j < min (osl m.rows).length 7 by omega) hsh]
        repeat (first | (with_reducible first | refine Way.imp ?_ | refine blk_o rfl ?_) | ((with_reducible refine WayR.imp (fun K hK => ?_)); simp (disch := first | omega | (simp only [dls]; omega)) only [std, reduceIte, reduceCtorEq, Int.reduceToNat, Nat.reduceAdd, Nat.reduceSub, Nat.reduceMul, Int.reduceAdd, Int.reduceSub, Int.reduceMul, Int.reduceNeg, fU, lenAV_s, fRow]; subst hK) | (apply call_any_g (hf1) rfl; (case hg => simp (disch := first | omega | (simp only [dls]; omega)) only [std, reduceIte, reduceCtorEq, Int.reduceToNat, Nat.reduceAdd, Nat.reduceSub, Nat.reduceMul, Int.reduceAdd, Int.reduceSub, Int.reduceMul, Int.reduceNeg, fU, lenAV_s, fRow]); (case hcl => (simp only [evs, St.ev, constAV, evl]; (repeat (first | exact closeAVs_nil | (apply closeAVs_cons; (first | (refine close_own3 rfl (by decide)) | (refine close_ownO rfl (by decide) ?_; assumption) | rfl)))); done)); (case hu => rfl)))
        exact ⟨_, rfl, rfl⟩
      | true =>
        rw [h4] at hf1 hsh
        cases h5 : fewB (some [(osl m.rows)[j].b]) with
        | false =>
          rw [h5] at hf2 hsh
          rw [allI_false (show j < min (osl m.rows).length 7 by omega) hsh]
          repeat (first | (with_reducible first | refine Way.imp ?_ | refine blk_o rfl ?_) | ((with_reducible refine WayR.imp (fun K hK => ?_)); simp (disch := first | omega | (simp only [dls]; omega)) only [std, reduceIte, reduceCtorEq, Int.reduceToNat, Nat.reduceAdd, Nat.reduceSub, Nat.reduceMul, Int.reduceAdd, Int.reduceSub, Int.reduceMul, Int.reduceNeg, fU, lenAV_s, fRow]; subst hK) | (apply call_any_g (hf1) rfl; (case hg => simp (disch := first | omega | (simp only [dls]; omega)) only [std, reduceIte, reduceCtorEq, Int.reduceToNat, Nat.reduceAdd, Nat.reduceSub, Nat.reduceMul, Int.reduceAdd, Int.reduceSub, Int.reduceMul, Int.reduceNeg, fU, lenAV_s, fRow]); (case hcl => (simp only [evs, St.ev, constAV, evl]; (repeat (first | exact closeAVs_nil | (apply closeAVs_cons; (first | (refine close_own3 rfl (by decide)) | (refine close_ownO rfl (by decide) ?_; assumption) | rfl)))); done)); (case hu => rfl)) | (apply call_flat_g (by simp (disch := first | omega | (simp only [dls]; omega)) only [std, reduceIte, reduceCtorEq, Int.reduceToNat, Nat.reduceAdd, Nat.reduceSub, Nat.reduceMul, Int.reduceAdd, Int.reduceSub, Int.reduceMul, Int.reduceNeg, fU, lenAV_s, fRow]) (hf2) rfl; (case hcl => (simp only [evs, St.ev, constAV, evl]; (repeat (first | exact closeAVs_nil | (apply closeAVs_cons; (first | (refine close_own3 rfl (by decide)) | (refine close_ownO rfl (by decide) ?_; assumption) | rfl)))); done)); (case hf => rfl)))
          exact ⟨_, rfl, rfl⟩
        | true =>
          rw [h5] at hf2 hsh
          repeat (first | (with_reducible first | refine Way.imp ?_ | refine blk_o rfl ?_) | ((with_reducible refine WayR.imp (fun K hK => ?_)); simp (disch := first | omega | (simp only [dls]; omega)) only [std, reduceIte, reduceCtorEq, Int.reduceToNat, Nat.reduceAdd, Nat.reduceSub, Nat.reduceMul, Int.reduceAdd, Int.reduceSub, Int.reduceMul, Int.reduceNeg, fU, lenAV_s, fRow]; subst hK) | (apply call_any_g (hf1) rfl; (case hg => simp (disch := first | omega | (simp only [dls]; omega)) only [std, reduceIte, reduceCtorEq, Int.reduceToNat, Nat.reduceAdd, Nat.reduceSub, Nat.reduceMul, Int.reduceAdd, Int.reduceSub, Int.reduceMul, Int.reduceNeg, fU, lenAV_s, fRow]); (case hcl => (simp only [evs, St.ev, constAV, evl]; (repeat (first | exact closeAVs_nil | (apply closeAVs_cons; (first | (refine close_own3 rfl (by decide)) | (refine close_ownO rfl (by decide) ?_; assumption) | rfl)))); done)); (case hu => rfl)) | (apply call_flat_g (by simp (disch := first | omega | (simp only [dls]; omega)) only [std, reduceIte, reduceCtorEq, Int.reduceToNat, Nat.reduceAdd, Nat.reduceSub, Nat.reduceMul, Int.reduceAdd, Int.reduceSub, Int.reduceMul, Int.reduceNeg, fU, lenAV_s, fRow]) (hf2) rfl; (case hcl => (simp only [evs, St.ev, constAV, evl]; (repeat (first | exact closeAVs_nil | (apply closeAVs_cons; (first | (refine close_own3 rfl (by decide)) | (refine close_ownO rfl (by decide) ?_; assumption) | rfl)))); done)); (case hf => rfl)))
          refine ⟨(j + 1), ?hI6, ?hM6, Fgt.head (Nat.zero_le 1) [false, true, false, false, true] ?hT6 ?hH6⟩
          case hT6 => first | (simp (disch := omega) only [hds, liveT, cleanAV, cleanCell, clean1, cleanBlk, reduceIte, Int.reduceSub, Int.reduceAdd, Int.reduceNeg]; done) | rfl
          case hH6 => first | (simp (disch := omega) only [hds, liveT, cleanAV, cleanCell, clean1, cleanBlk, reduceIte, Int.reduceSub, Int.reduceAdd, Int.reduceNeg]; done) | rfl
          · exact ⟨by omega, by rw [allI_succ, ht, hsh]; rfl⟩
          · show 10 - (j + 1) < 10 - j; omega
    rw [← h7, ht, Bool.true_and]
    have hfc := few_C m.cost
    have fin2 : (j < (osl m.rows).length ∧ ¬ ((j : Int) ≤ 6)) ∨ ¬ j < (osl m.rows).length := by omega
    by_cases k1 : (osl m.vars).length ≤ 8
    · rw [decide_eq_true k1, Bool.true_and]
      by_cases k2 : (osl m.rows).length ≤ 6
      · rw [decide_eq_true k2, Bool.true_and]
        have e4 : ¬ j < (osl m.rows).length := by omega
        generalize fewB m.cost = z at *
        repeat (first | (with_reducible first | refine Way.imp ?_ | refine blk_o rfl ?_) | ((with_reducible refine WayR.imp (fun K hK => ?_)); simp (disch := first | omega | (simp only [dls]; omega)) only [std, reduceIte, reduceCtorEq, Int.reduceToNat, Nat.reduceAdd, Nat.reduceSub, Nat.reduceMul, Int.reduceAdd, Int.reduceSub, Int.reduceMul, Int.reduceNeg, fU, lenAV_s]; subst hK) | (apply call_any_g (hfc) rfl; (case hg => simp (disch := first | omega | (simp only [dls]; omega)) only [std, reduceIte, reduceCtorEq, Int.reduceToNat, Nat.reduceAdd, Nat.reduceSub, Nat.reduceMul, Int.reduceAdd, Int.reduceSub, Int.reduceMul, Int.reduceNeg, fU, lenAV_s]); (case hcl => (simp only [evs, St.ev, constAV, evl]; (repeat (first | exact closeAVs_nil | (apply closeAVs_cons; (first | (refine close_own3 rfl (by decide)) | (refine close_ownO rfl (by decide) ?_; assumption) | rfl)))); done)); (case hu => rfl)))
        exact ⟨_, rfl, rfl⟩
      · rw [decide_eq_false k2, Bool.false_and]
        rcases fin2 with ⟨e3, e4⟩ | e4
        · repeat (first | (with_reducible first | refine Way.imp ?_ | refine blk_o rfl ?_) | ((with_reducible refine WayR.imp (fun K hK => ?_)); simp (disch := first | omega | (simp only [dls]; omega)) only [std, reduceIte, reduceCtorEq, Int.reduceToNat, Nat.reduceAdd, Nat.reduceSub, Nat.reduceMul, Int.reduceAdd, Int.reduceSub, Int.reduceMul, Int.reduceNeg, fU, lenAV_s]; subst hK))
          exact ⟨_, rfl, rfl⟩
        · repeat (first | (with_reducible first | refine Way.imp ?_ | refine blk_o rfl ?_) | ((with_reducible refine WayR.imp (fun K hK => ?_)); simp (disch := first | omega | (simp only [dls]; omega)) only [std, reduceIte, reduceCtorEq, Int.reduceToNat, Nat.reduceAdd, Nat.reduceSub, Nat.reduceMul, Int.reduceAdd, Int.reduceSub, Int.reduceMul, Int.reduceNeg, fU, lenAV_s]; subst hK))
          exact ⟨_, rfl, rfl⟩
    · rw [decide_eq_false k1, Bool.false_and]
      rcases fin2 with ⟨e3, e4⟩ | e4
      · repeat (first | (with_reducible first | refine Way.imp ?_ | refine blk_o rfl ?_) | ((with_reducible refine WayR.imp (fun K hK => ?_)); simp (disch := first | omega | (simp only [dls]; omega)) only [std, reduceIte, reduceCtorEq, Int.reduceToNat, Nat.reduceAdd, Nat.reduceSub, Nat.reduceMul, Int.reduceAdd, Int.reduceSub, Int.reduceMul, Int.reduceNeg, fU, lenAV_s]; subst hK))
        exact ⟨_, rfl, rfl⟩
      · repeat (first | (with_reducible first | refine Way.imp ?_ | refine blk_o rfl ?_) | ((with_reducible refine WayR.imp (fun K hK => ?_)); simp (disch := first | omega | (simp only [dls]; omega)) only [std, reduceIte, reduceCtorEq, Int.reduceToNat, Nat.reduceAdd, Nat.reduceSub, Nat.reduceMul, Int.reduceAdd, Int.reduceSub, Int.reduceMul, Int.reduceNeg, fU, lenAV_s]; subst hK))
        exact ⟨_, rfl, rfl⟩

end Go.Proofs.Ytdhkdnmefeeclaa
set_option linter.unusedSimpArgs false
set_option linter.unusedVariables false
set_option maxRecDepth 100000
set_option maxHeartbeats 4000000
namespace Go.Proofs.Ytdhkdnmefeeclaa
open Go Go.Am Go.Proofs Go.RowKit Go.Off

abbrev c130 : CC := (.seq (.reg [⟨(some 1), none, (.box 40 (.tmp 0))⟩, ⟨(some 2), none, (.mv (.const (.bool false)))⟩]) (.seq (.reg [⟨(some 3), none, (.load 3 true (.tmp 1))⟩, ⟨(some 4), none, (.callf (.func 33) [(.tmp 3)])⟩, ⟨(some 5), none, (.bin .lss (.tmp 4) (.const (.int .i64 (0))))⟩, ⟨(some 2), none, (.mv (.tmp 5))⟩]) .ret))
theorem cc130 : ccode Try.prog [] (Try.f130.body.getD .skip) = some c130 := by kernel_rfl
theorem body130 : Try.f130.body = some (Try.f130.body.getD .skip) := rfl

theorem feas1_C (r : RR) (L : Nat) (h : Fits r L) (hL : L ≤ 1000000) : PureC Try.prog 130 [aR r] (.ret (aB (belowB r))) := by
  have hs := rsign_C r (h.mono (by omega))
  rw [← sgn_below]
  generalize sgn r.top = s at *
  refine pureC_of (rs := [(RV.tmp 2)]) Try.func130 (fun a w => Try.call130 a w) body130 cc130 (by kernel_rfl) ?_
  rw [Try.ntmps130]
  simp only [frs, Nat.reduceAdd, Nat.reduceSub]
  repeat (first | (with_reducible first | refine Way.imp ?_ | refine blk_o rfl ?_) | ((with_reducible refine WayR.imp (fun K hK => ?_)); simp (disch := first | omega | (simp only [dls]; omega)) only [std, reduceIte, reduceCtorEq, Int.reduceToNat, Nat.reduceAdd, Nat.reduceSub, Nat.reduceMul, Int.reduceAdd, Int.reduceSub, Int.reduceMul, Int.reduceNeg, fU]; subst hK) | refine zcA (hs) rfl rfl rfl ?_)
  exact ⟨_, rfl, rfl⟩

def okZ (rel z : Int) : Bool := !((decide (rel ≤ 0) && decide (0 < z)) || (decide (0 ≤ rel) && decide (z < 0)))
def rowOk (m : MD) (x : VV) (i : Nat) : Bool := okZ (rwAt m i).rel (cmpQ (dotV (rwAt m i).coef x) (rwAt m i).b.val)
def feasB (m : MD) (x : VV) : Bool := decide ((osl x).length = (osl m.vars).length) && (!anyI (pAt belowB x) (osl x).length && allI (rowOk m x) (osl m.rows).length)

abbrev c75_k1 : CC := (.seq (.reg [⟨(some 4), none, (.mv (.const (.bool true)))⟩]) .ret)
abbrev c75_b1 : CC := (.seq (.reg [⟨(some 24), none, (.bin .lss (.tmp 23) (.tmp 22))⟩]) (.seq (.cond (.tmp 24) .skip (.exit 0)) (.seq (.block 1 (.seq (.reg [⟨(some 25), none, (.iaddr 6 none (.tmp 21) (.tmp 23))⟩, ⟨(some 26), none, (.load 6 true (.tmp 25))⟩, ⟨(some 7), none, (.new 96 [(.string ⟨#[]⟩), (.slice none 0 0), (.int .i64 (0)), (.bool false), (.slice none 0 0), (.slice none 0 0)])⟩, ⟨none, none, (.store 6 (.tmp 7) (.tmp 26))⟩]) (.seq (.reg [⟨(some 27), none, (.faddr 1 (.tmp 7))⟩, ⟨(some 28), none, (.load 1 false (.tmp 27))⟩, ⟨(some 29), none, (.mv (.tmp 1))⟩, ⟨(some 30), none, (.callf (.func 41) [(.tmp 28), (.tmp 29)])⟩, ⟨(some 31), none, (.faddr 3 (.tmp 7))⟩, ⟨(some 32), none, (.load 3 true (.tmp 31))⟩, ⟨(some 33), none, (.callf (.func 46) [(.tmp 30), (.tmp 32)])⟩, ⟨(some 8), none, (.mv (.tmp 33))⟩]) (.seq (.reg [⟨(some 34), none, (.faddr 2 (.tmp 7))⟩, ⟨(some 35), none, (.load 1 false (.tmp 34))⟩, ⟨(some 36), none, (.bin .leq (.tmp 35) (.const (.int .i64 (0))))⟩, ⟨(some 37), none, (.mv (.tmp 36))⟩, ⟨(some 38), (some (37, true)), (.mv (.tmp 8))⟩, ⟨(some 39), (some (37, true)), (.bin .gtr (.tmp 38) (.const (.int .i64 (0))))⟩, ⟨(some 40), none, (.pick (.tmp 37) (.tmp 39) (.const (.bool false)))⟩, ⟨(some 41), none, (.mv (.tmp 40))⟩, ⟨(some 42), (some (41, false)), (.faddr 2 (.tmp 7))⟩, ⟨(some 43), (some (41, false)), (.load 1 false (.tmp 42))⟩, ⟨(some 44), (some (41, false)), (.bin .geq (.tmp 43) (.const (.int .i64 (0))))⟩, ⟨(some 45), (some (41, false)), (.mv (.tmp 44))⟩, ⟨(some 46), (some (45, true)), (.mv (.tmp 8))⟩, ⟨(some 47), (some (45, true)), (.bin .lss (.tmp 46) (.const (.int .i64 (0))))⟩, ⟨(some 48), (some (41, false)), (.pick (.tmp 45) (.tmp 47) (.const (.bool false)))⟩, ⟨(some 49), none, (.pick (.tmp 41) (.const (.bool true)) (.tmp 48))⟩]) (.cond (.tmp 49) (.seq (.reg [⟨(some 4), none, (.mv (.const (.bool false)))⟩]) .ret) .skip))))) (.reg [⟨(some 50), none, (.bin .add (.tmp 23) (.const (.int .i64 (1))))⟩, ⟨(some 23), none, (.mv (.tmp 50))⟩]))))
abbrev c75 : CC := (.seq (.reg [⟨(some 2), none, (.box 91 (.tmp 0))⟩, ⟨(some 4), none, (.mv (.const (.bool false)))⟩]) (.seq (.reg [⟨(some 5), none, (.mv (.func 130))⟩]) (.seq (.seq (.reg [⟨(some 9), none, (.mv (.tmp 1))⟩, ⟨(some 10), none, (.len false (.tmp 9))⟩, ⟨(some 11), none, (.faddr 0 (.tmp 2))⟩, ⟨(some 12), none, (.load 1 false (.tmp 11))⟩, ⟨(some 13), none, (.len false (.tmp 12))⟩, ⟨(some 14), none, (.bin .neq (.tmp 10) (.tmp 13))⟩, ⟨(some 15), none, (.mv (.tmp 14))⟩, ⟨(some 16), (some (15, false)), (.mv (.tmp 1))⟩, ⟨(some 17), (some (15, false)), (.mv (.tmp 5))⟩, ⟨(some 18), (some (15, false)), (.callf (.func 111) [(.tmp 16), (.tmp 17)])⟩, ⟨(some 19), none, (.pick (.tmp 15) (.const (.bool true)) (.tmp 18))⟩]) (.cond (.tmp 19) (.seq (.reg [⟨(some 4), none, (.mv (.const (.bool false)))⟩]) .ret) .skip)) (.seq (.seq (.reg [⟨(some 20), none, (.faddr 2 (.tmp 2))⟩, ⟨(some 21), none, (.load 1 false (.tmp 20))⟩, ⟨(some 22), none, (.len false (.tmp 21))⟩, ⟨(some 23), none, (.mv (.const (.int .i64 (0))))⟩]) (.block 0 (.loop c75_b1))) c75_k1))))
theorem cc75 : ccode Try.prog [] (Try.f75.body.getD .skip) = some c75 := by kernel_rfl
theorem body75 : Try.f75.body = some (Try.f75.body.getD .skip) := rfl

theorem feas_C (m : MD) (x : VV) (n L : Nat) (hf : FitsMd m n L) (hx : FitsV x n L) (hn : n ≤ 1000) (hL : 1 ≤ L) (hL2 : L ≤ 2000) (hR : (osl m.rows).length ≤ 1000000) : PureC Try.prog 75 [aMd m, aV x] (.ret (aB (feasB m x))) := by
  have hx1 := hx.1
  unfold feasB
  by_cases c1 : (osl x).length = (osl m.vars).length
  case neg =>
    rw [decide_eq_false c1, Bool.false_and]
    refine pureC_of (rs := [(RV.tmp 4)]) Try.func75 (fun a w => Try.call75 a w) body75 cc75 (by kernel_rfl) ?_
    rw [Try.ntmps75]
    simp only [frs, Nat.reduceAdd, Nat.reduceSub]
    repeat (first | (with_reducible first | refine Way.imp ?_ | refine blk_o rfl ?_) | ((with_reducible refine WayR.imp (fun K hK => ?_)); simp (disch := first | omega | (simp only [dls]; omega)) only [std, reduceIte, reduceCtorEq, Int.reduceToNat, Nat.reduceAdd, Nat.reduceSub, Nat.reduceMul, Int.reduceAdd, Int.reduceSub, Int.reduceMul, Int.reduceNeg, fU]; subst hK))
    exact ⟨_, rfl, rfl⟩
  rw [decide_eq_true c1, Bool.true_and]
  have hc := conR_C x 130 belowB (by omega) (fun r hr => feas1_C r L (hx.2 r hr) (by omega))
  cases c2 : anyI (pAt belowB x) (osl x).length with
  | true =>
    rw [c2] at hc
    refine pureC_of (rs := [(RV.tmp 4)]) Try.func75 (fun a w => Try.call75 a w) body75 cc75 (by kernel_rfl) ?_
    rw [Try.ntmps75]
    simp only [frs, Nat.reduceAdd, Nat.reduceSub]
    repeat (first | (with_reducible first | refine Way.imp ?_ | refine blk_o rfl ?_) | ((with_reducible refine WayR.imp (fun K hK => ?_)); simp (disch := first | omega | (simp only [dls]; omega)) only [std, reduceIte, reduceCtorEq, Int.reduceToNat, Nat.reduceAdd, Nat.reduceSub, Nat.reduceMul, Int.reduceAdd, Int.reduceSub, Int.reduceMul, Int.reduceNeg, fU, c1]; subst hK) | (apply call_any_g (hc) rfl; (case hg => simp (disch := first | omega | (simp only [dls]; omega)) only [std, reduceIte, reduceCtorEq, Int.reduceToNat, Nat.reduceAdd, Nat.reduceSub, Nat.reduceMul, Int.reduceAdd, Int.reduceSub, Int.reduceMul, Int.reduceNeg, fU, c1]); (case hcl => (simp only [evs, St.ev, constAV, evl]; (repeat (first | exact closeAVs_nil | (apply closeAVs_cons; (first | (refine close_own3 rfl (by decide)) | (refine close_ownO rfl (by decide) ?_; assumption) | rfl)))); done)); (case hu => rfl)))
    exact ⟨_, rfl, rfl⟩
  | false =>
  rw [c2] at hc
  rw [Bool.not_false, Bool.true_and]
  refine pureC_of (rs := [(RV.tmp 4)]) Try.func75 (fun a w => Try.call75 a w) body75 cc75 (by kernel_rfl) ?_
  rw [Try.ntmps75]
  simp only [frs, Nat.reduceAdd, Nat.reduceSub]
  repeat (first | (with_reducible first | refine Way.imp ?_ | refine blk_o rfl ?_) | ((with_reducible refine WayR.imp (fun K hK => ?_)); simp (disch := first | omega | (simp only [dls]; omega)) only [std, reduceIte, reduceCtorEq, Int.reduceToNat, Nat.reduceAdd, Nat.reduceSub, Nat.reduceMul, Int.reduceAdd, Int.reduceSub, Int.reduceMul, Int.reduceNeg, fU, c1]; subst hK) | (apply call_any_g (hc) rfl; (case hg => simp (disch := first | omega | (simp only [dls]; omega)) only [std, reduceIte, reduceCtorEq, Int.reduceToNat, Nat.reduceAdd, Nat.reduceSub, Nat.reduceMul, Int.reduceAdd, Int.reduceSub, Int.reduceMul, Int.reduceNeg, fU, c1]); (case hcl => (simp only [evs, St.ev, constAV, evl]; (repeat (first | exact closeAVs_nil | (apply closeAVs_cons; (first | (refine close_own3 rfl (by decide)) | (refine close_ownO rfl (by decide) ?_; assumption) | rfl)))); done)); (case hu => rfl)))
  refine awp_loop (fun (zz : Nat) => ⟨(.junk :: aV x :: .junk :: .junk :: .junk :: .junk :: .junk :: .junk :: .junk :: .junk :: .junk :: .junk :: .junk :: .junk :: .junk :: .junk :: .junk :: .junk :: .junk :: .junk :: .junk :: .one (.c (encSl 6 fRow m.rows)) :: aI (osl m.rows).length :: aI zz :: .junk :: .junk :: .junk :: .junk :: .junk :: .junk :: .junk :: .junk :: .junk :: .junk :: .junk :: .junk :: .junk :: .junk :: .junk :: .junk :: .junk :: .junk :: .junk :: .junk :: .junk :: .junk :: .junk :: .junk :: .junk :: .junk :: .junk :: []), []⟩) (fun (zz : Nat) => zz ≤ (osl m.rows).length ∧ allI (rowOk m x) zz = true) (fun (zz : Nat) => (osl m.rows).length - zz) (0) ?hI1 (Fgt.head (Nat.le_refl _) [false, true, false, false, false, false, false, false, false, false, false, false, false, false, false, false, false, false, false, false, false, true, true, true] ?hT1 ?hH1) ?hB1
  case hT1 => first | (simp (disch := omega) only [hds, liveT, cleanAV, cleanCell, clean1, cleanBlk, reduceIte, Int.reduceSub, Int.reduceAdd, Int.reduceNeg]; done) | rfl
  case hH1 => first | (simp (disch := omega) only [hds, liveT, cleanAV, cleanCell, clean1, cleanBlk, reduceIte, Int.reduceSub, Int.reduceAdd, Int.reduceNeg]; done) | rfl
  · exact ⟨Nat.zero_le _, rfl⟩
  rintro i ⟨hi, hs⟩
  by_cases him : i = (osl m.rows).length
  · rw [← him, hs]
    repeat (first | (with_reducible first | refine Way.imp ?_ | refine blk_o rfl ?_) | ((with_reducible refine WayR.imp (fun K hK => ?_)); simp (disch := first | omega | (simp only [dls]; omega)) only [std, reduceIte, reduceCtorEq, Int.reduceToNat, Nat.reduceAdd, Nat.reduceSub, Nat.reduceMul, Int.reduceAdd, Int.reduceSub, Int.reduceMul, Int.reduceNeg, fU]; subst hK))
    exact ⟨_, rfl, rfl⟩
  have hlt : i < (osl m.rows).length := by omega
  have hrf := (hf.2 _ (List.getElem_mem hlt)).1
  have hbf := (hf.2 _ (List.getElem_mem hlt)).2
  have hd := dot_C (osl m.rows)[i].coef x n L hrf hx hn hL hL2
  have hfd := fits_dot hrf hx hL
  have hnL : n * (2 * L + 1) ≤ 1000 * 4001 := Nat.mul_le_mul hn (by omega)
  have hcm := rcompare_C (rawQ (dotV (osl m.rows)[i].coef x)) (osl m.rows)[i].b ((fits_rawQ hfd).mono (by omega)) (hbf.mono (by omega))
  rw [rawQ_val] at hcm
  have hro : rowOk m x i = okZ (osl m.rows)[i].rel (cmpQ (dotV (osl m.rows)[i].coef x) (osl m.rows)[i].b.val) := by unfold rowOk; rw [rwAt_in hlt]
  generalize cmpQ (dotV (osl m.rows)[i].coef x) (osl m.rows)[i].b.val = z at *
  have hcase : ((osl m.rows)[i].rel ≤ 0 ∧ 0 < z ∧ rowOk m x i = false) ∨ ((osl m.rows)[i].rel ≤ 0 ∧ ¬ 0 < z ∧ 0 ≤ (osl m.rows)[i].rel ∧ z < 0 ∧ rowOk m x i = false) ∨ ((osl m.rows)[i].rel ≤ 0 ∧ ¬ 0 < z ∧ 0 ≤ (osl m.rows)[i].rel ∧ ¬ z < 0 ∧ rowOk m x i = true) ∨ ((osl m.rows)[i].rel ≤ 0 ∧ ¬ 0 < z ∧ ¬ 0 ≤ (osl m.rows)[i].rel ∧ rowOk m x i = true) ∨
      (¬ (osl m.rows)[i].rel ≤ 0 ∧ 0 ≤ (osl m.rows)[i].rel ∧ z < 0 ∧ rowOk m x i = false) ∨ (¬ (osl m.rows)[i].rel ≤ 0 ∧ 0 ≤ (osl m.rows)[i].rel ∧ ¬ z < 0 ∧ rowOk m x i = true) := by
    rw [hro]
    unfold okZ
    by_cases h1 : (osl m.rows)[i].rel ≤ 0
    · by_cases h2 : 0 < z
      · exact .inl ⟨h1, h2, by simp [h1, h2]⟩
      · by_cases h3 : 0 ≤ (osl m.rows)[i].rel
        · by_cases h4 : z < 0
          · exact .inr (.inl ⟨h1, h2, h3, h4, by simp [h3, h4]⟩)
          · exact .inr (.inr (.inl ⟨h1, h2, h3, h4, by simp [h2, h4]⟩))
        · exact .inr (.inr (.inr (.inl ⟨h1, h2, h3, by simp [h2, h3]⟩)))
    · have h3 : 0 ≤ (osl m.rows)[i].rel := by omega
      by_cases h4 : z < 0
      · exact .inr (.inr (.inr (.inr (.inl ⟨h1, h3, h4, by simp [h3, h4]⟩))))
      · exact .inr (.inr (.inr (.inr (.inr ⟨h1, h3, h4, by simp [h1, h4]⟩))))
  clear hro
  rcases hcase with ⟨h1, h2, hro⟩ | ⟨h1, h2, h3, h5, hro⟩ | ⟨h1, h2, h3, h5, hro⟩ | ⟨h1, h2, h3, hro⟩ | ⟨h1, h3, h5, hro⟩ | ⟨h1, h3, h5, hro⟩
  · rw [allI_false hlt hro]
    repeat (first | (with_reducible first | refine Way.imp ?_ | refine blk_o rfl ?_) | ((with_reducible refine WayR.imp (fun K hK => ?_)); simp (disch := first | omega | (simp only [dls]; omega)) only [std, reduceIte, reduceCtorEq, Int.reduceToNat, Nat.reduceAdd, Nat.reduceSub, Nat.reduceMul, Int.reduceAdd, Int.reduceSub, Int.reduceMul, Int.reduceNeg, fU, fRow]; subst hK) | refine zcA (hd) rfl rfl rfl ?_ | refine zcA (hcm) rfl rfl rfl ?_)
    exact ⟨_, rfl, rfl⟩
  · rw [allI_false hlt hro]
    repeat (first | (with_reducible first | refine Way.imp ?_ | refine blk_o rfl ?_) | ((with_reducible refine WayR.imp (fun K hK => ?_)); simp (disch := first | omega | (simp only [dls]; omega)) only [std, reduceIte, reduceCtorEq, Int.reduceToNat, Nat.reduceAdd, Nat.reduceSub, Nat.reduceMul, Int.reduceAdd, Int.reduceSub, Int.reduceMul, Int.reduceNeg, fU, fRow]; subst hK) | refine zcA (hd) rfl rfl rfl ?_ | refine zcA (hcm) rfl rfl rfl ?_)
    exact ⟨_, rfl, rfl⟩
  · repeat (first | (with_reducible first | refine Way.imp ?_ | refine blk_o rfl ?_) | ((with_reducible refine WayR.imp (fun K hK => ?_)); simp (disch := first | omega | (simp only [dls]; omega)) only [std, reduceIte, reduceCtorEq, Int.reduceToNat, Nat.reduceAdd, Nat.reduceSub, Nat.reduceMul, Int.reduceAdd, Int.reduceSub, Int.reduceMul, Int.reduceNeg, fU, fRow]; subst hK) | refine zcA (hd) rfl rfl rfl ?_ | refine zcA (hcm) rfl rfl rfl ?_)
    refine ⟨(i + 1), ?hI2, ?hM2, Fgt.head (Nat.le_refl _) [false, true, false, false, false, false, false, false, false, false, false, false, false, false, false, false, false, false, false, false, false, true, true, true] ?hT2 ?hH2⟩
    case hT2 => first | (simp (disch := omega) only [hds, liveT, cleanAV, cleanCell, clean1, cleanBlk, reduceIte, Int.reduceSub, Int.reduceAdd, Int.reduceNeg]; done) | rfl
    case hH2 => first | (simp (disch := omega) only [hds, liveT, cleanAV, cleanCell, clean1, cleanBlk, reduceIte, Int.reduceSub, Int.reduceAdd, Int.reduceNeg]; done) | rfl
    · exact ⟨Nat.succ_le_of_lt hlt, by rw [allI_succ, hs, hro]; rfl⟩
    · show (osl m.rows).length - (i + 1) < (osl m.rows).length - i; omega
  · repeat (first | (with_reducible first | refine Way.imp ?_ | refine blk_o rfl ?_) | ((with_reducible refine WayR.imp (fun K hK => ?_)); simp (disch := first | omega | (simp only [dls]; omega)) only [std, reduceIte, reduceCtorEq, Int.reduceToNat, Nat.reduceAdd, Nat.reduceSub, Nat.reduceMul, Int.reduceAdd, Int.reduceSub, Int.reduceMul, Int.reduceNeg, fU, fRow]; subst hK) | refine zcA (hd) rfl rfl rfl ?_ | refine zcA (hcm) rfl rfl rfl ?_)
    refine ⟨(i + 1), ?hI3, ?hM3, Fgt.head (Nat.le_refl _) [false, true, false, false, false, false, false, false, false, false, false, false, false, false, false, false, false, false, false, false, false, true, true, true] ?hT3 ?hH3⟩
    case hT3 => first | (simp (disch := omega) only [hds, liveT, cleanAV, cleanCell, clean1, cleanBlk, reduceIte, Int.reduceSub, Int.reduceAdd, Int.reduceNeg]; done) | rfl
    case hH3 => first | (simp (disch := omega) only [hds, liveT, cleanAV, cleanCell, clean1, cleanBlk, reduceIte, Int.reduceSub, Int.reduceAdd, Int.reduceNeg]; done) | rfl
    · exact ⟨Nat.succ_le_of_lt hlt, by rw [allI_succ, hs, hro]; rfl⟩
    · show (osl m.rows).length - (i + 1) < (osl m.rows).length - i; omega
  · rw [allI_false hlt hro]
    repeat (first | (with_reducible first | refine Way.imp ?_ | refine blk_o rfl ?_) | ((with_reducible refine WayR.imp (fun K hK => ?_)); simp (disch := first | omega | (simp only [dls]; omega)) only [std, reduceIte, reduceCtorEq, Int.reduceToNat, Nat.reduceAdd, Nat.reduceSub, Nat.reduceMul, Int.reduceAdd, Int.reduceSub, Int.reduceMul, Int.reduceNeg, fU, fRow]; subst hK) | refine zcA (hd) rfl rfl rfl ?_ | refine zcA (hcm) rfl rfl rfl ?_)
    exact ⟨_, rfl, rfl⟩
  · repeat (first | (with_reducible first | refine Way.imp ?_ | refine blk_o rfl ?_) | ((with_reducible refine WayR.imp (fun K hK => ?_)); simp (disch := first | omega | (simp only [dls]; omega)) only [std, reduceIte, reduceCtorEq, Int.reduceToNat, Nat.reduceAdd, Nat.reduceSub, Nat.reduceMul, Int.reduceAdd, Int.reduceSub, Int.reduceMul, Int.reduceNeg, fU, fRow]; subst hK) | refine zcA (hd) rfl rfl rfl ?_ | refine zcA (hcm) rfl rfl rfl ?_)
    refine ⟨(i + 1), ?hI4, ?hM4, Fgt.head (Nat.le_refl _) [false, true, false, false, false, false, false, false, false, false, false, false, false, false, false, false, false, false, false, false, false, true, true, true] ?hT4 ?hH4⟩
    case hT4 => first | (simp (disch := omega) only [hds, liveT, cleanAV, cleanCell, clean1, cleanBlk, reduceIte, Int.reduceSub, Int.reduceAdd, Int.reduceNeg]; done) | rfl
    case hH4 => first | (simp (disch := omega) only [hds, liveT, cleanAV, cleanCell, clean1, cleanBlk, reduceIte, Int.reduceSub, Int.reduceAdd, Int.reduceNeg]; done) | rfl
    · exact ⟨Nat.succ_le_of_lt hlt, by rw [allI_succ, hs, hro]; rfl⟩
    · show (osl m.rows).length - (i + 1) < (osl m.rows).length - i; omega

abbrev c76 : CC := (.seq (.reg [⟨(some 2), none, (.box 91 (.tmp 0))⟩, ⟨(some 4), none, (.new 40 [(.bool false), (.slice none 0 0), (.slice none 0 0)])⟩]) (.seq (.reg [⟨(some 5), none, (.faddr 1 (.tmp 2))⟩, ⟨(some 6), none, (.load 1 false (.tmp 5))⟩, ⟨(some 7), none, (.mv (.tmp 1))⟩, ⟨(some 8), none, (.callf (.func 41) [(.tmp 6), (.tmp 7)])⟩, ⟨none, none, (.store 3 (.tmp 4) (.tmp 8))⟩]) .ret))
theorem cc76 : ccode Try.prog [] (Try.f76.body.getD .skip) = some c76 := by kernel_rfl
theorem body76 : Try.f76.body = some (Try.f76.body.getD .skip) := rfl

theorem value_C (m : MD) (x : VV) (n L : Nat) (hf : FitsV m.cost n L) (hx : FitsV x n L) (hn : n ≤ 1000) (hL : 1 ≤ L) (hL2 : L ≤ 2000) : PureC Try.prog 76 [aMd m, aV x] (.ret (aR (rawQ (dotV m.cost x)))) := by
  have hd := dot_C m.cost x n L hf hx hn hL hL2
  generalize rawQ (dotV m.cost x) = q at *
  refine pureC_of (rs := [(RV.cell 4 3 true)]) Try.func76 (fun a w => Try.call76 a w) body76 cc76 (by kernel_rfl) ?_
  rw [Try.ntmps76]
  simp only [frs, Nat.reduceAdd, Nat.reduceSub]
  repeat (first | (with_reducible first | refine Way.imp ?_ | refine blk_o rfl ?_) | ((with_reducible refine WayR.imp (fun K hK => ?_)); simp (disch := first | omega | (simp only [dls]; omega)) only [std, reduceIte, reduceCtorEq, Int.reduceToNat, Nat.reduceAdd, Nat.reduceSub, Nat.reduceMul, Int.reduceAdd, Int.reduceSub, Int.reduceMul, Int.reduceNeg, fU]; subst hK) | refine zcA (hd) rfl rfl rfl ?_)
  exact ⟨_, rfl, rfl⟩

abbrev hiV (n : Nat) (v : VV) : VV := Option.map (fun x => List.take n x) v
theorem osl_hi (n : Nat) (v : VV) : osl (hiV n v) = (osl v).take n := by cases v <;> simp [osl]
def backL (m : MD) (x : VV) : List Rat := ((osl x).take (osl m.vars).length).map fun r => r.val

abbrev c74 : CC := (.seq (.reg [⟨(some 2), none, (.box 91 (.tmp 0))⟩, ⟨(some 4), none, (.mv (.const (.slice none 0 0)))⟩]) (.seq (.seq (.reg [⟨(some 5), none, (.mv (.tmp 1))⟩, ⟨(some 6), none, (.len false (.tmp 5))⟩, ⟨(some 7), none, (.faddr 0 (.tmp 2))⟩, ⟨(some 8), none, (.load 1 false (.tmp 7))⟩, ⟨(some 9), none, (.len false (.tmp 8))⟩, ⟨(some 10), none, (.bin .lss (.tmp 6) (.tmp 9))⟩]) (.cond (.tmp 10) (.seq (.reg [⟨(some 4), none, (.mv (.const (.slice none 0 0)))⟩]) .ret) .skip)) (.seq (.regn false [⟨(some 11), none, (.mv (.tmp 1))⟩, ⟨(some 12), none, (.faddr 0 (.tmp 2))⟩, ⟨(some 13), none, (.load 1 false (.tmp 12))⟩, ⟨(some 14), none, (.len false (.tmp 13))⟩, ⟨(some 15), none, (.cutc 3 (.tmp 11) none (some (.tmp 14)) none)⟩, ⟨(some 16), none, (.callf (.func 59) [(.const (.int .i64 (1)))])⟩, ⟨(some 17), none, (.callf (.func 45) [(.tmp 15), (.tmp 16)])⟩, ⟨(some 4), none, (.mv (.tmp 17))⟩]) .ret)))
theorem cc74 : ccode Try.prog [] (Try.f74.body.getD .skip) = some c74 := by kernel_rfl
theorem body74 : Try.f74.body = some (Try.f74.body.getD .skip) := rfl

theorem back_no (m : MD) (x : VV) (h : (osl x).length < (osl m.vars).length) : PureC Try.prog 74 [aMd m, aV x] (.ret (aV none)) := by
  refine pureC_of (rs := [(RV.tmp 4)]) Try.func74 (fun a w => Try.call74 a w) body74 cc74 (by kernel_rfl) ?_
  rw [Try.ntmps74]
  simp only [frs, Nat.reduceAdd, Nat.reduceSub]
  repeat (first | (with_reducible first | refine Way.imp ?_ | refine blk_o rfl ?_) | ((with_reducible refine WayR.imp (fun K hK => ?_)); simp (disch := first | omega | (simp only [dls]; omega)) only [std, reduceIte, reduceCtorEq, Int.reduceToNat, Nat.reduceAdd, Nat.reduceSub, Nat.reduceMul, Int.reduceAdd, Int.reduceSub, Int.reduceMul, Int.reduceNeg, fU]; subst hK))
  exact ⟨_, rfl, rfl⟩
theorem back_yes (m : MD) (x : VV) (n L : Nat) (hx : FitsV x n L) (hn : n ≤ 1000000) (hL : 1 ≤ L) (hL2 : L ≤ 1000000) (h : (osl m.vars).length ≤ (osl x).length) : PureC Try.prog 74 [aMd m, aV x] (.ret (aV (rowV (backL m x)))) := by
  have hint := rint_C 1 (by omega) (by omega)
  rw [show ((1 : Int) : Rat) = 1 from rfl] at hint
  have hfx : FitsV (hiV (osl m.vars).length x) n L := ⟨by rw [osl_hi, List.length_take]; have := hx.1; omega, fun r hr => by rw [osl_hi] at hr; exact hx.2 r (List.mem_of_mem_take hr)⟩
  have hsc := vscale_R (hiV (osl m.vars).length x) (rawQ 1) n L hfx (fits_rawQ (fitsQ_one L hL)) hn hL hL2
  have hsq : scaleQ (hiV (osl m.vars).length x) (rawQ 1).val = backL m x := by unfold scaleQ backL; rw [rawQ_val, osl_hi]; simp only [Rat.mul_one]
  rw [hsq] at hsc
  refine pureC_of (rs := [(RV.tmp 4)]) Try.func74 (fun a w => Try.call74 a w) body74 cc74 (by kernel_rfl) ?_
  rw [Try.ntmps74]
  simp only [frs, Nat.reduceAdd, Nat.reduceSub]
  repeat (first | (with_reducible first | refine Way.imp ?_ | refine blk_o rfl ?_) | ((with_reducible refine WayR.imp (fun K hK => ?_)); simp (disch := first | omega | (simp only [dls]; omega)) only [std, reduceIte, reduceCtorEq, Int.reduceToNat, Nat.reduceAdd, Nat.reduceSub, Nat.reduceMul, Int.reduceAdd, Int.reduceSub, Int.reduceMul, Int.reduceNeg, fU]; subst hK) | refine zcA (hint) rfl rfl rfl ?_ | refine zcA (hsc) rfl rfl rfl ?_)
  exact ⟨_, rfl, rfl⟩

end Go.Proofs.Ytdhkdnmefeeclaa
set_option linter.unusedSimpArgs false
set_option linter.unusedVariables false
set_option maxRecDepth 100000
set_option maxHeartbeats 4000000
namespace Go.Proofs.Ytdhkdnmefeeclaa
open Go Go.Am Go.Proofs Go.RowKit Go.Off

/-- What a row leaves, of those that are no equations. -/
def slPart (x : VV) (r : RowM) : List Rat := if r.rel = 0 then [] else [(r.b.val - dotV r.coef x) * ((0 - r.rel : Int) : Rat)]
def slTo (m : MD) (x : VV) (k : Nat) : List Rat := (((osl m.rows).take k).map (slPart x)).flatten
theorem slTo_succ (m : MD) (x : VV) {k : Nat} (h : k < (osl m.rows).length) : slTo m x (k + 1) = slTo m x k ++ slPart x (osl m.rows)[k] := by
  unfold slTo
  rw [List.take_succ_eq_append_getElem h, List.map_append, List.flatten_append]
  simp
theorem slTo_len (m : MD) (x : VV) (k : Nat) (h : k ≤ (osl m.rows).length) : (slTo m x k).length = slackN m k := by
  induction k with
  | zero => rfl
  | succ k ih =>
    rw [slTo_succ m x h, List.length_append, ih (by omega), slackN_succ m h]
    unfold slPart
    split <;> rfl
def slackL (m : MD) (x : VV) : List Rat := ((osl x).map fun r => r.val) ++ slTo m x (osl m.rows).length

abbrev c80_k1 : CC := (.seq (.reg [⟨(some 49), none, (.mv (.tmp 6))⟩, ⟨(some 4), none, (.mv (.tmp 49))⟩, ⟨(some 5), none, (.mv (.const (.bool true)))⟩]) .ret)
abbrev c80_b1 : CC := (.seq (.reg [⟨(some 26), none, (.bin .lss (.tmp 25) (.tmp 24))⟩]) (.seq (.cond (.tmp 26) .skip (.exit 0)) (.seq (.block 1 (.seq (.reg [⟨(some 27), none, (.iaddr 6 none (.tmp 23) (.tmp 25))⟩, ⟨(some 28), none, (.load 6 true (.tmp 27))⟩, ⟨(some 8), none, (.new 96 [(.string ⟨#[]⟩), (.slice none 0 0), (.int .i64 (0)), (.bool false), (.slice none 0 0), (.slice none 0 0)])⟩, ⟨none, none, (.store 6 (.tmp 8) (.tmp 28))⟩]) (.seq (.reg [⟨(some 29), none, (.faddr 2 (.tmp 8))⟩, ⟨(some 30), none, (.load 1 false (.tmp 29))⟩, ⟨(some 31), none, (.bin .neq (.tmp 30) (.const (.int .i64 (0))))⟩]) (.cond (.tmp 31) (.seq (.regn true [⟨(some 32), none, (.faddr 3 (.tmp 8))⟩, ⟨(some 33), none, (.load 3 true (.tmp 32))⟩, ⟨(some 34), none, (.faddr 1 (.tmp 8))⟩, ⟨(some 35), none, (.load 1 false (.tmp 34))⟩, ⟨(some 36), none, (.mv (.tmp 1))⟩, ⟨(some 37), none, (.callf (.func 41) [(.tmp 35), (.tmp 36)])⟩, ⟨(some 38), none, (.callf (.func 131) [(.tmp 33), (.tmp 37)])⟩, ⟨(some 9), none, (.fill 40 [(.bool false), (.slice none 0 0), (.slice none 0 0)])⟩, ⟨none, none, (.store 3 (.tmp 9) (.tmp 38))⟩]) (.reg [⟨(some 39), none, (.mv (.tmp 6))⟩, ⟨(some 40), none, (.load 3 true (.tmp 9))⟩, ⟨(some 41), none, (.faddr 2 (.tmp 8))⟩, ⟨(some 42), none, (.load 1 false (.tmp 41))⟩, ⟨(some 43), none, (.un .neg (.tmp 42))⟩, ⟨(some 44), none, (.callf (.func 59) [(.tmp 43)])⟩, ⟨(some 45), none, (.callf (.func 48) [(.tmp 40), (.tmp 44)])⟩, ⟨(some 46), none, (.mkrow 40 3 [(.tmp 45)])⟩, ⟨(some 47), none, (.append 40 3 56 (.tmp 39) (.tmp 46))⟩, ⟨(some 6), none, (.mv (.tmp 47))⟩])) .skip)))) (.reg [⟨(some 48), none, (.bin .add (.tmp 25) (.const (.int .i64 (1))))⟩, ⟨(some 25), none, (.mv (.tmp 48))⟩]))))
abbrev c80 : CC := (.seq (.reg [⟨(some 2), none, (.box 91 (.tmp 0))⟩, ⟨(some 4), none, (.mv (.const (.slice none 0 0)))⟩, ⟨(some 5), none, (.mv (.const (.bool false)))⟩]) (.seq (.seq (.reg [⟨(some 10), none, (.load 3 true (.tmp 2))⟩, ⟨(some 11), none, (.callf (.func 73) [(.tmp 10)])⟩, ⟨(some 12), none, (.un .not (.tmp 11))⟩, ⟨(some 13), none, (.mv (.tmp 12))⟩, ⟨(some 14), (some (13, false)), (.load 3 true (.tmp 2))⟩, ⟨(some 15), (some (13, false)), (.mv (.tmp 1))⟩, ⟨(some 16), (some (13, false)), (.callf (.func 75) [(.tmp 14), (.tmp 15)])⟩, ⟨(some 17), (some (13, false)), (.un .not (.tmp 16))⟩, ⟨(some 18), none, (.pick (.tmp 13) (.const (.bool true)) (.tmp 17))⟩]) (.cond (.tmp 18) (.seq (.reg [⟨(some 4), none, (.mv (.const (.slice none 0 0)))⟩, ⟨(some 5), none, (.mv (.const (.bool false)))⟩]) .ret) .skip)) (.seq (.reg [⟨(some 19), none, (.mv (.tmp 1))⟩, ⟨(some 20), none, (.callf (.func 59) [(.const (.int .i64 (1)))])⟩, ⟨(some 21), none, (.callf (.func 45) [(.tmp 19), (.tmp 20)])⟩, ⟨(some 6), none, (.mv (.tmp 21))⟩]) (.seq (.seq (.reg [⟨(some 22), none, (.faddr 2 (.tmp 2))⟩, ⟨(some 23), none, (.load 1 false (.tmp 22))⟩, ⟨(some 24), none, (.len false (.tmp 23))⟩, ⟨(some 25), none, (.mv (.const (.int .i64 (0))))⟩]) (.block 0 (.loop c80_b1))) c80_k1))))
theorem cc80 : ccode Try.prog [] (Try.f80.body.getD .skip) = some c80 := by kernel_rfl
theorem body80 : Try.f80.body = some (Try.f80.body.getD .skip) := rfl

theorem slack_no (m : MD) (x : VV) (n L : Nat) (hf : FitsMd m n L) (hx : FitsV x n L) (hn : n ≤ 1000) (hL : 1 ≤ L) (hL2 : L ≤ 2000) (hR : (osl m.rows).length ≤ 1000000) (hw : ∀ s ∈ osl m.vars, s.length ≤ 1000000) (hr : ∀ r ∈ osl m.rows, r.name.length ≤ 1000000)
    (h : rightMd m = false ∨ feasB m x = false) : PureC Try.prog 80 [aMd m, aV x] (.ret (.tup [aV none, aB false])) := by
  have hm := mright_C m hw hr
  cases c1 : rightMd m with
  | false =>
    rw [c1] at hm
    refine pureC_of (rs := [(RV.tmp 4), (RV.tmp 5)]) Try.func80 (fun a w => Try.call80 a w) body80 cc80 (by kernel_rfl) ?_
    rw [Try.ntmps80]
    simp only [frs, Nat.reduceAdd, Nat.reduceSub]
    repeat (first | (with_reducible first | refine Way.imp ?_ | refine blk_o rfl ?_) | ((with_reducible refine WayR.imp (fun K hK => ?_)); simp (disch := first | omega | (simp only [dls]; omega)) only [std, reduceIte, reduceCtorEq, Int.reduceToNat, Nat.reduceAdd, Nat.reduceSub, Nat.reduceMul, Int.reduceAdd, Int.reduceSub, Int.reduceMul, Int.reduceNeg, fU]; subst hK) | refine zcA (hm) rfl rfl rfl ?_)
    exact ⟨_, rfl, rfl⟩
  | true =>
    rw [c1] at hm
    have hfe := feas_C m x n L hf hx hn hL hL2 hR
    rw [h.resolve_left (by rw [c1]; simp)] at hfe
    refine pureC_of (rs := [(RV.tmp 4), (RV.tmp 5)]) Try.func80 (fun a w => Try.call80 a w) body80 cc80 (by kernel_rfl) ?_
    rw [Try.ntmps80]
    simp only [frs, Nat.reduceAdd, Nat.reduceSub]
    repeat (first | (with_reducible first | refine Way.imp ?_ | refine blk_o rfl ?_) | ((with_reducible refine WayR.imp (fun K hK => ?_)); simp (disch := first | omega | (simp only [dls]; omega)) only [std, reduceIte, reduceCtorEq, Int.reduceToNat, Nat.reduceAdd, Nat.reduceSub, Nat.reduceMul, Int.reduceAdd, Int.reduceSub, Int.reduceMul, Int.reduceNeg, fU]; subst hK) | refine zcA (hm) rfl rfl rfl ?_ | (apply call_any_g (hfe) rfl; (case hg => simp (disch := first | omega | (simp only [dls]; omega)) only [std, reduceIte, reduceCtorEq, Int.reduceToNat, Nat.reduceAdd, Nat.reduceSub, Nat.reduceMul, Int.reduceAdd, Int.reduceSub, Int.reduceMul, Int.reduceNeg, fU]); (case hcl => (simp only [evs, St.ev, constAV, evl]; (repeat (first | exact closeAVs_nil | (apply closeAVs_cons; (first | (refine close_own3 rfl (by decide)) | (refine close_ownO rfl (by decide) ?_; assumption) | rfl)))); done)); (case hu => rfl)))
    exact ⟨_, rfl, rfl⟩

theorem slack_yes (m : MD) (x : VV) (n L : Nat) (hf : FitsMd m n L) (hx : FitsV x n L) (hn : n ≤ 1000) (hL : 1 ≤ L) (hL2 : L ≤ 2000) (hw : ∀ s ∈ osl m.vars, s.length ≤ 1000000) (hr : ∀ r ∈ osl m.rows, r.name.length ≤ 1000000)
    (h1 : rightMd m = true) (h2 : feasB m x = true) : PureC Try.prog 80 [aMd m, aV x] (.ret (.tup [aV (rowV (slackL m x)), aB true])) := by
  have h' := h1
  unfold rightMd at h'
  simp only [Bool.and_eq_true, decide_eq_true_eq] at h'
  obtain ⟨hv60, hcl, hr60, _, _, hbad⟩ := h'
  have hbad' : anyI (mdBad m) (osl m.rows).length = false := by simpa using hbad
  have hrel : ∀ i (hi : i < (osl m.rows).length), -1 ≤ (osl m.rows)[i].rel ∧ (osl m.rows)[i].rel ≤ 1 := fun i hi => by
    have := anyI_false hbad' hi
    unfold mdBad rwBad at this
    rw [rwAt_in hi] at this
    have h3 : (osl (osl m.rows)[i].coef).length = (osl m.vars).length ∧ -1 ≤ (osl m.rows)[i].rel ∧ (osl m.rows)[i].rel ≤ 1 := by simpa using this
    exact h3.2
  have hm := mright_C m hw hr
  rw [h1] at hm
  have hfe := feas_C m x n L hf hx hn hL hL2 (by omega)
  rw [h2] at hfe
  have hint := rint_C 1 (by omega) (by omega)
  rw [show ((1 : Int) : Rat) = 1 from rfl] at hint
  have hsc := vscale_N x (rawQ 1) n L hx (fits_rawQ (fitsQ_one L hL)) (by omega) hL (by omega)
  have hsq : scaleQ x (rawQ 1).val = (osl x).map fun r => r.val := by unfold scaleQ; rw [rawQ_val]; simp only [Rat.mul_one]
  rw [hsq] at hsc
  have hx1 := hx.1
  have hx0 : ((osl x).map fun r => r.val).length = (osl x).length := by rw [List.length_map]
  refine pureC_of (rs := [(RV.tmp 4), (RV.tmp 5)]) Try.func80 (fun a w => Try.call80 a w) body80 cc80 (by kernel_rfl) ?_
  rw [Try.ntmps80]
  simp only [frs, Nat.reduceAdd, Nat.reduceSub]
  repeat (first | (with_reducible first | refine Way.imp ?_ | refine blk_o rfl ?_) | ((with_reducible refine WayR.imp (fun K hK => ?_)); simp (disch := first | omega | (simp only [dls]; omega)) only [std, reduceIte, reduceCtorEq, Int.reduceToNat, Nat.reduceAdd, Nat.reduceSub, Nat.reduceMul, Int.reduceAdd, Int.reduceSub, Int.reduceMul, Int.reduceNeg, fU]; subst hK) | refine zcA (hm) rfl rfl rfl ?_ | (apply call_any_g (hfe) rfl; (case hg => simp (disch := first | omega | (simp only [dls]; omega)) only [std, reduceIte, reduceCtorEq, Int.reduceToNat, Nat.reduceAdd, Nat.reduceSub, Nat.reduceMul, Int.reduceAdd, Int.reduceSub, Int.reduceMul, Int.reduceNeg, fU]); (case hcl => (simp only [evs, St.ev, constAV, evl]; (repeat (first | exact closeAVs_nil | (apply closeAVs_cons; (first | (refine close_own3 rfl (by decide)) | (refine close_ownO rfl (by decide) ?_; assumption) | rfl)))); done)); (case hu => rfl)) | refine zcA (hint) rfl rfl rfl ?_ | (apply call_new (hsc) rfl; (case hcl => (simp only [evs, St.ev, constAV, evl]; (repeat (first | exact closeAVs_nil | (apply closeAVs_cons; (first | (refine close_own3 rfl (by decide)) | (refine close_ownO rfl (by decide) ?_; assumption) | rfl)))); done)); (case hu => (simp only [evs, St.ev, constAV, evl]; (repeat (first | exact used_nil | (apply used_cons; (first | (apply used_own3; rfl) | rfl)))); done)); (case hh => ((simp only [fzl, Nat.reduceBEq, Nat.reduceAdd, Bool.false_eq_true, if_true, if_false, reduceIte]) <;> rfl))))
  refine awp_loop (fun (zz : Nat × (List RR) × Nat × Bool) => ⟨(.junk :: aV x :: .junk :: .junk :: .junk :: .junk :: .one (.own 1 zz.2.2.1) :: .junk :: .junk :: .junk :: .junk :: .junk :: .junk :: .junk :: .junk :: .junk :: .junk :: .junk :: .junk :: .junk :: .junk :: .junk :: .junk :: .one (.c (encSl 6 fRow m.rows)) :: aI (osl m.rows).length :: aI zz.1 :: .junk :: .junk :: .junk :: .junk :: .junk :: .junk :: .junk :: .junk :: .junk :: .junk :: .junk :: .junk :: .junk :: .junk :: .junk :: .junk :: .junk :: .junk :: .junk :: .junk :: .junk :: .junk :: .junk :: .junk :: []), [⟨0, 91, 3, [[.c (encSl 1 fW m.vars), .c (vr m.cost), .c (encSl 6 fRow m.rows)]], true, true⟩, ⟨zz.2.2.1, 40, 3, encB fR zz.2.1, true, zz.2.2.2⟩]⟩) (fun (zz : Nat × (List RR) × Nat × Bool) => zz.1 ≤ (osl m.rows).length ∧ zz.2.1 = (((osl x).map fun r => r.val) ++ slTo m x zz.1).map rawQ ∧ zz.2.2.2 = !zz.2.1.isEmpty) (fun (zz : Nat × (List RR) × Nat × Bool) => (osl m.rows).length - zz.1) (0, ((osl x).map fun r => r.val).map rawQ, 0, (!(((osl x).map fun r => r.val).map rawQ).isEmpty)) ?hI1 (Fgt.head (Nat.zero_le 2) [false, true, false, false, false, false, true, false, false, false, false, false, false, false, false, false, false, false, false, false, false, false, false, true, true, true] ?hT1 ?hH1) ?hB1
  case hT1 => first | (simp (disch := omega) only [hds, liveT, cleanAV, cleanCell, clean1, cleanBlk, reduceIte, Int.reduceSub, Int.reduceAdd, Int.reduceNeg]; done) | rfl
  case hH1 => first | (simp (disch := omega) only [hds, liveT, cleanAV, cleanCell, clean1, cleanBlk, reduceIte, Int.reduceSub, Int.reduceAdd, Int.reduceNeg]; done) | rfl
  · dsimp only; exact ⟨Nat.zero_le _, by rw [show slTo m x 0 = [] from rfl, List.append_nil], rfl⟩
  rintro ⟨i, out, v, nn⟩ ⟨hi, ho, hnn⟩
  dsimp only at hi ho hnn
  by_cases him : i = (osl m.rows).length
  · repeat (first | (with_reducible first | refine Way.imp ?_ | refine blk_o rfl ?_) | ((with_reducible refine WayR.imp (fun K hK => ?_)); simp (disch := first | omega | (simp only [dls]; omega)) only [std, reduceIte, reduceCtorEq, Int.reduceToNat, Nat.reduceAdd, Nat.reduceSub, Nat.reduceMul, Int.reduceAdd, Int.reduceSub, Int.reduceMul, Int.reduceNeg, fU]; subst hK))
    refine ⟨_, rfl, ?_⟩
    have he : rowV (slackL m x) = rowO out := by unfold rowV slackL; rw [ho, him]
    rw [he]
    exact close_res2 rfl (by decide) hnn
  · have hlt : i < (osl m.rows).length := by omega
    have hss := slTo_succ m x hlt
    obtain ⟨hr1, hr2⟩ := hrel i hlt
    by_cases h0 : (osl m.rows)[i].rel = 0
    · have hp : slTo m x (i + 1) = slTo m x i := by rw [hss]; unfold slPart; rw [if_pos h0, List.append_nil]
      repeat (first | (with_reducible first | refine Way.imp ?_ | refine blk_o rfl ?_) | ((with_reducible refine WayR.imp (fun K hK => ?_)); simp (disch := first | omega | (simp only [dls]; omega)) only [std, reduceIte, reduceCtorEq, Int.reduceToNat, Nat.reduceAdd, Nat.reduceSub, Nat.reduceMul, Int.reduceAdd, Int.reduceSub, Int.reduceMul, Int.reduceNeg, fU, fRow]; subst hK))
      refine ⟨(i + 1, out, v, nn), ?hI2, ?hM2, Fgt.head (Nat.zero_le 2) [false, true, false, false, false, false, true, false, false, false, false, false, false, false, false, false, false, false, false, false, false, false, false, true, true, true] ?hT2 ?hH2⟩
      case hT2 => first | (simp (disch := omega) only [hds, liveT, cleanAV, cleanCell, clean1, cleanBlk, reduceIte, Int.reduceSub, Int.reduceAdd, Int.reduceNeg]; done) | rfl
      case hH2 => first | (simp (disch := omega) only [hds, liveT, cleanAV, cleanCell, clean1, cleanBlk, reduceIte, Int.reduceSub, Int.reduceAdd, Int.reduceNeg]; done) | rfl
      · dsimp only; exact ⟨by omega, by rw [hp]; exact ho, hnn⟩
      · dsimp only; omega
    · have hp : slTo m x (i + 1) = slTo m x i ++ [((osl m.rows)[i].b.val - dotV (osl m.rows)[i].coef x) * ((0 - (osl m.rows)[i].rel : Int) : Rat)] := by rw [hss]; unfold slPart; rw [if_neg h0]
      have hrf := (hf.2 _ (List.getElem_mem hlt)).1
      have hbf := (hf.2 _ (List.getElem_mem hlt)).2
      have hd := dot_C (osl m.rows)[i].coef x n L hrf hx hn hL hL2
      have hfd := fits_dot hrf hx hL
      have hnL : n * (2 * L + 1) ≤ 1000 * 4001 := Nat.mul_le_mul hn (by omega)
      have hsub := rsub_C (osl m.rows)[i].b (rawQ (dotV (osl m.rows)[i].coef x)) (hbf.mono (by omega)) ((fits_rawQ hfd).mono (by omega))
      rw [rawQ_val] at hsub
      have hin := rint_C (0 - (osl m.rows)[i].rel) (by omega) (by omega)
      have hfs : FitsQ ((osl m.rows)[i].b.val - dotV (osl m.rows)[i].coef x) (L + (n * (2 * L + 1) + 1) + 1) := by
        rw [Rat.sub_eq_add_neg]
        exact (hbf.val hL).add1 hfd.neg
      have hmul := rmul_C (rawQ ((osl m.rows)[i].b.val - dotV (osl m.rows)[i].coef x)) (rawQ ((0 - (osl m.rows)[i].rel : Int) : Rat)) ((fits_rawQ hfs).mono (by omega)) ((fits_rawQ (fits_int _ (by omega) (by omega))).mono (by omega))
      rw [rawQ_val, rawQ_val] at hmul
      have hol : out.length ≤ 1060 := by
        have h5 := slTo_len m x i hi
        have h6 := slackN_le m i
        rw [ho, List.length_map, List.length_append, hx0, h5]; omega
      generalize hPQ : ((osl m.rows)[i].b.val - dotV (osl m.rows)[i].coef x) * ((0 - (osl m.rows)[i].rel : Int) : Rat) = pq at *
      generalize (osl m.rows)[i].b.val - dotV (osl m.rows)[i].coef x = sq at *
      repeat (first | (with_reducible first | refine Way.imp ?_ | refine blk_o rfl ?_) | ((with_reducible refine WayR.imp (fun K hK => ?_)); simp (disch := first | omega | (simp only [dls]; omega)) only [std, reduceIte, reduceCtorEq, Int.reduceToNat, Nat.reduceAdd, Nat.reduceSub, Nat.reduceMul, Int.reduceAdd, Int.reduceSub, Int.reduceMul, Int.reduceNeg, fU, fRow]; subst hK) | refine zcA (hd) rfl rfl rfl ?_ | refine zcA (hsub) rfl rfl rfl ?_ | refine zcA (hin) rfl rfl rfl ?_ | refine zcA (hmul) rfl rfl rfl ?_)
      refine ⟨(i + 1, out ++ [rawQ pq], v + 1, true), ?hI3, ?hM3, Fgt.head (Nat.zero_le 2) [false, true, false, false, false, false, true, false, false, false, false, false, false, false, false, false, false, false, false, false, false, false, false, true, true, true] ?hT3 ?hH3⟩
      case hT3 => first | (simp (disch := omega) only [hds, liveT, cleanAV, cleanCell, clean1, cleanBlk, reduceIte, Int.reduceSub, Int.reduceAdd, Int.reduceNeg, encB_snoc_row, List.isEmpty_cons, Bool.or_true, Bool.not_false]; done) | rfl
      case hH3 => first | (simp (disch := omega) only [hds, liveT, cleanAV, cleanCell, clean1, cleanBlk, reduceIte, Int.reduceSub, Int.reduceAdd, Int.reduceNeg, encB_snoc_row, List.isEmpty_cons, Bool.or_true, Bool.not_false]; done) | rfl
      · dsimp only
        exact ⟨by omega, by rw [hp, ho, ← List.append_assoc, List.map_append (l₂ := [pq])]; rfl, by simp⟩
      · dsimp only; omega

end Go.Proofs.Ytdhkdnmefeeclaa
