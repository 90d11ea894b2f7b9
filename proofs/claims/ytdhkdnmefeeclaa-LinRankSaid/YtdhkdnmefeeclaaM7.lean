/- Walks of lin: Turn. -/
import Derived.Test.YtdhkdnmefeeclaaM2
set_option linter.unusedSimpArgs false
set_option linter.unusedVariables false
set_option linter.unnecessarySimpa false
set_option linter.unusedSimpArgs false
set_option linter.unusedVariables false
set_option maxRecDepth 100000
set_option maxHeartbeats 4000000
namespace Go.Proofs.Ytdhkdnmefeeclaa
open Go Go.Am Go.Proofs Go.RowKit Go.Off

abbrev c60_k1 : CC := (.seq (.reg [⟨(some 49), none, (.mv (.tmp 6))⟩, ⟨(some 2), none, (.mv (.tmp 49))⟩]) .ret)
abbrev c60_k2 : CC := (.reg [⟨(some 48), none, (.bin .add (.tmp 20) (.const (.int .i64 (1))))⟩, ⟨(some 20), none, (.mv (.tmp 48))⟩])
abbrev c60_k3 : CC := (.reg [⟨(some 44), none, (.mv (.tmp 6))⟩, ⟨(some 45), none, (.mv (.tmp 8))⟩, ⟨(some 46), none, (.mkrow 22 1 [(.tmp 45)])⟩, ⟨(some 47), none, (.append 22 1 24 (.tmp 44) (.tmp 46))⟩, ⟨(some 6), none, (.mv (.tmp 47))⟩])
abbrev c60_b1 : CC := (.seq (.reg [⟨(some 26), none, (.bin .lss (.tmp 25) (.tmp 24))⟩]) (.seq (.cond (.tmp 26) .skip (.exit 2)) (.seq (.block 3 (.seq (.reg [⟨(some 27), none, (.iaddr 1 none (.tmp 23) (.tmp 25))⟩, ⟨(some 28), none, (.load 1 false (.tmp 27))⟩, ⟨(some 10), none, (.mv (.tmp 28))⟩]) (.reg [⟨(some 29), none, (.mv (.tmp 8))⟩, ⟨(some 30), none, (.mv (.tmp 10))⟩, ⟨(some 31), none, (.mv (.tmp 7))⟩, ⟨(some 32), none, (.iaddr 3 none (.tmp 30) (.tmp 31))⟩, ⟨(some 33), none, (.faddr 0 (.tmp 32))⟩, ⟨(some 34), none, (.load 2 true (.tmp 33))⟩, ⟨(some 35), none, (.mv (.tmp 10))⟩, ⟨(some 36), none, (.mv (.tmp 7))⟩, ⟨(some 37), none, (.iaddr 3 none (.tmp 35) (.tmp 36))⟩, ⟨(some 38), none, (.faddr 2 (.tmp 37))⟩, ⟨(some 39), none, (.load 1 false (.tmp 38))⟩, ⟨(some 40), none, (.callf (.func 91) [(.tmp 34), (.tmp 39)])⟩, ⟨(some 41), none, (.mkrow 40 3 [(.tmp 40)])⟩, ⟨(some 42), none, (.append 40 3 56 (.tmp 29) (.tmp 41))⟩, ⟨(some 8), none, (.mv (.tmp 42))⟩]))) (.reg [⟨(some 43), none, (.bin .add (.tmp 25) (.const (.int .i64 (1))))⟩, ⟨(some 25), none, (.mv (.tmp 43))⟩]))))
abbrev c60_b2 : CC := (.seq (.reg [⟨(some 21), none, (.bin .lss (.tmp 20) (.tmp 19))⟩]) (.seq (.cond (.tmp 21) .skip (.exit 0)) (.seq (.block 1 (.seq (.reg [⟨(some 22), none, (.mv (.tmp 20))⟩, ⟨(some 7), none, (.mv (.tmp 22))⟩]) (.seq (.reg [⟨(some 8), none, (.mv (.const (.slice none 0 0)))⟩]) (.seq (.seq (.reg [⟨(some 23), none, (.mv (.tmp 0))⟩, ⟨(some 24), none, (.len false (.tmp 23))⟩, ⟨(some 25), none, (.mv (.const (.int .i64 (0))))⟩]) (.block 2 (.loop c60_b1))) c60_k3)))) c60_k2)))
abbrev c60 : CC := (.seq (.reg [⟨(some 2), none, (.mv (.const (.slice none 0 0)))⟩]) (.seq (.reg [⟨(some 12), none, (.mv (.tmp 0))⟩, ⟨(some 13), none, (.callf (.func 113) [(.tmp 12)])⟩, ⟨(some 11), none, (.mv (.tmp 13))⟩, ⟨(some 14), none, (.ext (.tmp 11) 0)⟩, ⟨(some 15), none, (.ext (.tmp 11) 1)⟩, ⟨(some 16), none, (.ext (.tmp 11) 2)⟩, ⟨(some 3), none, (.mv (.tmp 14))⟩, ⟨(some 4), none, (.mv (.tmp 15))⟩, ⟨(some 5), none, (.mv (.tmp 16))⟩]) (.seq (.seq (.reg [⟨(some 17), none, (.mv (.tmp 5))⟩, ⟨(some 18), none, (.un .not (.tmp 17))⟩]) (.cond (.tmp 18) (.seq (.reg [⟨(some 2), none, (.mv (.const (.slice none 0 0)))⟩]) .ret) .skip)) (.seq (.reg [⟨(some 6), none, (.mv (.const (.slice none 0 0)))⟩]) (.seq (.seq (.reg [⟨(some 19), none, (.mv (.tmp 4))⟩, ⟨(some 20), none, (.mv (.const (.int .i64 (0))))⟩]) (.block 0 (.loop c60_b2))) c60_k1)))))
theorem cc60 : ccode Try.prog [] (Try.f60.body.getD .skip) = some c60 := by kernel_rfl
theorem body60 : Try.f60.body = some (Try.f60.body.getD .skip) := rfl

theorem turn_no (m : MM) (hm : (osl m).length ≤ 1000000) (hk : okM m = false) : PureC Try.prog 60 [aM m] (.ret (aM none)) := by
  have hs := sides_C m hm
  unfold sidesV at hs
  rw [hk, if_neg (by simp)] at hs
  refine pureC_of (rs := [(RV.tmp 2)]) Try.func60 (fun a w => Try.call60 a w) body60 cc60 (by kernel_rfl) ?_
  rw [Try.ntmps60]
  simp only [frs, Nat.reduceAdd, Nat.reduceSub]
  repeat (first | (with_reducible first | refine Way.imp ?_ | refine blk_o rfl ?_) | ((with_reducible refine WayR.imp (fun K hK => ?_)); simp (disch := first | omega | (simp only [dls]; omega)) only [std, reduceIte, reduceCtorEq, Int.reduceToNat, Nat.reduceAdd, Nat.reduceSub, Nat.reduceMul, Int.reduceAdd, Int.reduceSub, Int.reduceMul, Int.reduceNeg, fU]; subst hK) | refine zcA (hs) rfl rfl rfl ?_)
  exact ⟨_, rfl, rfl⟩

theorem turn_yes (m : MM) (n L : Nat) (hm : FitsM m n L) (hn : n ≤ 1000000) (hL2 : L ≤ 1000000) (hk : okM m = true) :
    PureC Try.prog 60 [aM m] (.fresh 22 1 (((turnQ m).map rawV).map fM) (!((turnQ m).map rawV).isEmpty)) := by
  have hm1 := hm.1
  have hs := sides_C m (by omega)
  unfold sidesV at hs
  rw [hk, if_pos rfl] at hs
  have hk' := hk
  unfold okM at hk'
  simp only [Bool.and_eq_true, decide_eq_true_eq] at hk'
  have hN0 : (osl m).length = 0 → cols m = 0 := fun h0 => by unfold cols mAt; rw [List.length_eq_zero_iff.1 h0]; rfl
  unfold turnQ
  generalize hW : cols m = W at *
  refine pureC_of (rs := [(RV.tmp 2)]) Try.func60 (fun a w => Try.call60 a w) body60 cc60 (by kernel_rfl) ?_
  rw [Try.ntmps60]
  simp only [frs, Nat.reduceAdd, Nat.reduceSub]
  repeat (first | (with_reducible first | refine Way.imp ?_ | refine blk_o rfl ?_) | ((with_reducible refine WayR.imp (fun K hK => ?_)); simp (disch := first | omega | (simp only [dls]; omega)) only [std, reduceIte, reduceCtorEq, Int.reduceToNat, Nat.reduceAdd, Nat.reduceSub, Nat.reduceMul, Int.reduceAdd, Int.reduceSub, Int.reduceMul, Int.reduceNeg, fU]; subst hK) | refine zcA (hs) rfl rfl rfl ?_)
  refine AWp.fgt ?_ (Fgt.openNil (i := 6) rfl 22 1)
  simp only [List.set_cons_succ, List.set_cons_zero, List.length_nil, List.length_cons, List.nil_append, List.cons_append, Nat.reduceAdd]
  refine awp_loop (fun (zz : Nat × QM × Nat × Bool) => ⟨(aM m :: .junk :: .junk :: .junk :: .junk :: .junk :: .one (.own 0 zz.2.2.1) :: .junk :: .junk :: .junk :: .junk :: .junk :: .junk :: .junk :: .junk :: .junk :: .junk :: .junk :: .junk :: aI W :: aI zz.1 :: .junk :: .junk :: .junk :: .junk :: .junk :: .junk :: .junk :: .junk :: .junk :: .junk :: .junk :: .junk :: .junk :: .junk :: .junk :: .junk :: .junk :: .junk :: .junk :: .junk :: .junk :: .junk :: .junk :: .junk :: .junk :: .junk :: .junk :: .junk :: .junk :: []), [⟨zz.2.2.1, 22, 1, encB fM (zz.2.1.map rawV), true, zz.2.2.2⟩]⟩) (fun (zz : Nat × QM × Nat × Bool) => zz.1 ≤ W ∧ zz.2.1 = (List.range zz.1).map (fun j => colQ m j (osl m).length) ∧ zz.2.2.2 = !(zz.2.1.map rawV).isEmpty) (fun (zz : Nat × QM × Nat × Bool) => W - zz.1) (0, [], 0, false) ?hI1 (Fgt.head (Nat.zero_le 1) [true, false, false, false, false, false, true, false, false, false, false, false, false, false, false, false, false, false, false, true, true] ?hT1 ?hH1) ?hB1
  case hT1 => first | (simp (disch := omega) only [hds, liveT, cleanAV, cleanCell, clean1, cleanBlk, reduceIte, Int.reduceSub, Int.reduceAdd, Int.reduceNeg, encB_nil, List.map_nil]; done) | rfl
  case hH1 => first | (simp (disch := omega) only [hds, liveT, cleanAV, cleanCell, clean1, cleanBlk, reduceIte, Int.reduceSub, Int.reduceAdd, Int.reduceNeg, encB_nil, List.map_nil]; done) | rfl
  · dsimp only; exact ⟨by omega, rfl, rfl⟩
  rintro ⟨k, out, u, nn⟩ ⟨hi, ho, hnn⟩
  dsimp only at hi ho hnn
  by_cases hkW : k = W
  · repeat (first | (with_reducible first | refine Way.imp ?_ | refine blk_o rfl ?_) | ((with_reducible refine WayR.imp (fun K hK => ?_)); simp (disch := first | omega | (simp only [dls]; omega)) only [std, reduceIte, reduceCtorEq, Int.reduceToNat, Nat.reduceAdd, Nat.reduceSub, Nat.reduceMul, Int.reduceAdd, Int.reduceSub, Int.reduceMul, Int.reduceNeg, fU]; subst hK))
    refine ⟨_, rfl, ?_⟩
    rw [← hkW, ← ho, ← hnn]
    exact Ends.fresh_enc rfl
  · have hN : (osl m).length ≠ 0 := fun e => by have := hN0 e; omega
    repeat (first | (with_reducible first | refine Way.imp ?_ | refine blk_o rfl ?_) | ((with_reducible refine WayR.imp (fun K hK => ?_)); simp (disch := first | omega | (simp only [dls]; omega)) only [std, reduceIte, reduceCtorEq, Int.reduceToNat, Nat.reduceAdd, Nat.reduceSub, Nat.reduceMul, Int.reduceAdd, Int.reduceSub, Int.reduceMul, Int.reduceNeg, fU]; subst hK))
    refine AWp.fgt ?_ (Fgt.openNil (i := 8) rfl 40 3)
    simp only [List.set_cons_succ, List.set_cons_zero, List.length_nil, List.length_cons, List.nil_append, List.cons_append, Nat.reduceAdd]
    refine awp_loop (fun (zz : Nat × (List RR) × Nat × Bool) => ⟨(aM m :: .junk :: .junk :: .junk :: .junk :: .junk :: .one (.own 0 u) :: aI k :: .one (.own 1 zz.2.2.1) :: .junk :: .junk :: .junk :: .junk :: .junk :: .junk :: .junk :: .junk :: .junk :: .junk :: aI W :: aI k :: .junk :: .junk :: aM m :: aI (osl m).length :: aI zz.1 :: .junk :: .junk :: .junk :: .junk :: .junk :: .junk :: .junk :: .junk :: .junk :: .junk :: .junk :: .junk :: .junk :: .junk :: .junk :: .junk :: .junk :: .junk :: .junk :: .junk :: .junk :: .junk :: .junk :: .junk :: []), [⟨u, 22, 1, encB fM (out.map rawV), true, nn⟩, ⟨zz.2.2.1, 40, 3, encB fR zz.2.1, true, zz.2.2.2⟩]⟩) (fun (zz : Nat × (List RR) × Nat × Bool) => zz.1 ≤ (osl m).length ∧ zz.2.1 = (colQ m k zz.1).map rawQ ∧ zz.2.2.2 = !zz.2.1.isEmpty) (fun (zz : Nat × (List RR) × Nat × Bool) => (osl m).length - zz.1) (0, [], 0, false) ?hI2 (Fgt.head (Nat.zero_le 2) [true, false, false, false, false, false, true, true, true, false, false, false, false, false, false, false, false, false, false, true, true, false, false, true, true, true] ?hT2 ?hH2) ?hB2
    case hT2 => first | (simp (disch := omega) only [hds, liveT, cleanAV, cleanCell, clean1, cleanBlk, reduceIte, Int.reduceSub, Int.reduceAdd, Int.reduceNeg, encB_nil]; done) | rfl
    case hH2 => first | (simp (disch := omega) only [hds, liveT, cleanAV, cleanCell, clean1, cleanBlk, reduceIte, Int.reduceSub, Int.reduceAdd, Int.reduceNeg, encB_nil]; done) | rfl
    · dsimp only; exact ⟨by omega, rfl, rfl⟩
    rintro ⟨i, r, v, rn⟩ ⟨hi2, hr, hrn⟩
    dsimp only at hi2 hr hrn
    have hrl : r.length = i := by rw [hr, List.length_map]; unfold colQ; rw [List.length_map, List.length_range]
    have hol : out.length = k := by rw [ho, List.length_map, List.length_range]
    by_cases hin : i = (osl m).length
    · have hrt : rn = true := by
        rw [hrn]
        cases r with
        | nil => simp at hrl; omega
        | cons a b => rfl
      subst hrt
      repeat (first | (with_reducible first | refine Way.imp ?_ | refine blk_o rfl ?_) | ((with_reducible refine WayR.imp (fun K hK => ?_)); simp (disch := first | omega | (simp only [dls]; omega)) only [std, reduceIte, reduceCtorEq, Int.reduceToNat, Nat.reduceAdd, Nat.reduceSub, Nat.reduceMul, Int.reduceAdd, Int.reduceSub, Int.reduceMul, Int.reduceNeg, fU, List.length_map]; subst hK))
      refine ⟨(k + 1, out ++ [colQ m k (osl m).length], u + 1, true), ⟨by dsimp only; omega, ?_, ?_⟩, by dsimp only; omega, Fgt.trans (Fgt.cellSnoc (b := 0) (c := 1) (l := out.map rawV) (x := rawV (colQ m k (osl m).length)) rfl rfl (by decide) ?_ (by decide)) ?_⟩
      · dsimp only
        rw [ho, List.range_succ, List.map_append]
        rfl
      · dsimp only; cases out <;> rfl
      · rw [hr, hin]; rfl
      · rw [freeze_from]
        simp only [fzl, Nat.reduceBEq, Nat.reduceAdd, Bool.false_eq_true, if_true, if_false, reduceIte, List.set_cons_zero]
        have hmap : (out ++ [colQ m k (osl m).length]).map rawV = out.map rawV ++ [rawV (colQ m k (osl m).length)] := by rw [List.map_append]; rfl
        refine Fgt.head (Nat.zero_le 1) [true, false, false, false, false, false, true, false, false, false, false, false, false, false, false, false, false, false, false, true, true] ?hT ?hH
        case hT => first | (simp (disch := omega) only [hds, liveT, cleanAV, cleanCell, clean1, cleanBlk, reduceIte, Int.reduceSub, Int.reduceAdd, Int.reduceNeg]; done) | rfl
        case hH => first | (simp (disch := omega) only [hds, liveT, cleanAV, cleanCell, clean1, cleanBlk, reduceIte, Int.reduceSub, Int.reduceAdd, Int.reduceNeg, hmap, List.isEmpty_cons, Bool.or_true, Bool.not_false]; done) | rfl
    · have hlt : i < (osl m).length := by omega
      have hrow : (osl (osl m)[i]).length = W := by have := rectTo_at hk'.1 hlt; rw [mAt_in hlt, hW] at this; exact this
      have hkl : k < (osl (osl m)[i]).length := by omega
      have fi := (hm.2 _ (List.getElem_mem hlt)).2 _ (List.getElem_mem hkl)
      have hmk := rmake_C (RRnum (osl (osl m)[i])[k]) (osl (osl m)[i])[k].den (Nat.le_trans fi.1 (by omega)) (Nat.le_trans fi.2 (by omega))
      rw [num_top, denR_bot] at hmk
      change PureC _ _ _ (.ret (aR (rawQ (osl (osl m)[i])[k].val))) at hmk
      repeat (first | (with_reducible first | refine Way.imp ?_ | refine blk_o rfl ?_) | ((with_reducible refine WayR.imp (fun K hK => ?_)); simp (disch := first | omega | (simp only [dls]; omega)) only [std, reduceIte, reduceCtorEq, Int.reduceToNat, Nat.reduceAdd, Nat.reduceSub, Nat.reduceMul, Int.reduceAdd, Int.reduceSub, Int.reduceMul, Int.reduceNeg, fU, fM, fR]; subst hK) | refine zcA (hmk) rfl rfl rfl ?_)
      refine ⟨(i + 1, r ++ [rawQ (osl (osl m)[i])[k].val], v + 1, true), ?hI3, ?hM3, Fgt.head (Nat.zero_le 2) [true, false, false, false, false, false, true, true, true, false, false, false, false, false, false, false, false, false, false, true, true, false, false, true, true, true] ?hT3 ?hH3⟩
      case hT3 => first | (simp (disch := omega) only [hds, liveT, cleanAV, cleanCell, clean1, cleanBlk, reduceIte, Int.reduceSub, Int.reduceAdd, Int.reduceNeg, encB_snoc_row, List.isEmpty_cons, Bool.or_true, Bool.not_false]; done) | rfl
      case hH3 => first | (simp (disch := omega) only [hds, liveT, cleanAV, cleanCell, clean1, cleanBlk, reduceIte, Int.reduceSub, Int.reduceAdd, Int.reduceNeg, encB_snoc_row, List.isEmpty_cons, Bool.or_true, Bool.not_false]; done) | rfl
      · dsimp only
        refine ⟨by omega, ?_, by simp⟩
        rw [hr, colQ_succ, List.map_append, mAt_in hlt]
        unfold qAt
        rw [rAt_in hkl]
        rfl
      · dsimp only; omega

end Go.Proofs.Ytdhkdnmefeeclaa
