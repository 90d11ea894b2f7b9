/- The law LinRank: the walk. -/
import Derived.Test.YtdhkdnmefeeclaaM4
import Derived.Test.YtdhkdnmefeeclaaM7
set_option linter.unusedSimpArgs false
set_option linter.unusedVariables false
set_option linter.unnecessarySimpa false
set_option linter.unusedSimpArgs false
set_option linter.unusedVariables false
set_option maxRecDepth 100000
set_option maxHeartbeats 4000000
namespace Go.Proofs.Ytdhkdnmefeeclaa
open Go Go.Am Go.Proofs Go.RowKit Go.Off

theorem rank_none : rankQ none = 0 := rfl
theorem rank_turn {m : MM} {L : Nat} (hf : FitsM m 8 L) (hL : 1 ≤ L) (hr : rectTo m (osl m).length = true) : rankQ (rowO ((turnQ m).map rawV)) = rankQ m := by
  by_cases h0 : cols m = 0
  · have h1 : turnQ m = [] := by unfold turnQ; rw [h0]; rfl
    rw [h1]
    show rankQ none = _
    rw [rank_none]
    unfold rankQ
    rw [h0, ok_of hf (by decide) hr]
    rfl
  · have hst := shp_turn m
    have hrr := rect_rawM hst
    have hfT := fits_rawM (k := 8) (wf_turn hf hL) (cols_le hf) hf.1
    rw [rowO_rawM _ (by rw [hst.1]; exact h0)]
    unfold rankQ
    rw [ok_of hfT (by decide) hrr.1, ok_of hf (by decide) hr, if_pos rfl, if_pos rfl, qM_rawM, hrr.2 h0]
    exact rank_turned (shp_qM hr) hst (fun i k hi hk => by rw [eQ_turn m hk hi, eQ_qM])
theorem turn_C {m : MM} (hf : FitsM m 8 3) (hr : rectTo m (osl m).length = true) : PureC Try.prog 60 [aM m] (.ret (aM (rowO ((turnQ m).map rawV)))) :=
  (turn_yes m 8 3 hf (by decide) (by decide) (ok_of hf (by decide) hr)).fresh_rowO

abbrev c11 : CC := (.seq (.reg [⟨(some 2), none, (.mv (.const (.bool false)))⟩]) (.seq (.reg [⟨(some 8), none, (.mv (.tmp 0))⟩, ⟨(some 9), none, (.callf (.func 53) [(.tmp 8)])⟩, ⟨(some 7), none, (.mv (.tmp 9))⟩, ⟨(some 10), none, (.ext (.tmp 7) 0)⟩, ⟨(some 11), none, (.ext (.tmp 7) 1)⟩, ⟨(some 12), none, (.ext (.tmp 7) 2)⟩, ⟨(some 3), none, (.mv (.tmp 10))⟩, ⟨(some 4), none, (.mv (.tmp 11))⟩, ⟨(some 5), none, (.mv (.tmp 12))⟩]) (.seq (.seq (.reg [⟨(some 13), none, (.mv (.tmp 0))⟩, ⟨(some 14), none, (.callf (.func 54) [(.tmp 13)])⟩, ⟨(some 15), none, (.un .not (.tmp 14))⟩, ⟨(some 16), none, (.mv (.tmp 15))⟩, ⟨(some 17), (some (16, false)), (.mv (.tmp 5))⟩, ⟨(some 18), (some (16, false)), (.un .not (.tmp 17))⟩, ⟨(some 19), none, (.pick (.tmp 16) (.const (.bool true)) (.tmp 18))⟩, ⟨(some 20), none, (.mv (.tmp 19))⟩, ⟨(some 21), (some (20, false)), (.mv (.tmp 4))⟩, ⟨(some 22), (some (20, false)), (.bin .gtr (.tmp 21) (.const (.int .i64 (4))))⟩, ⟨(some 23), none, (.pick (.tmp 20) (.const (.bool true)) (.tmp 22))⟩]) (.cond (.tmp 23) (.seq (.reg [⟨(some 24), none, (.callf (.func 55) [])⟩, ⟨(some 2), none, (.mv (.tmp 24))⟩]) .ret) .skip)) (.seq (.reg [⟨(some 25), none, (.mv (.tmp 0))⟩, ⟨(some 26), none, (.callf (.func 58) [(.tmp 25)])⟩, ⟨(some 6), none, (.mv (.tmp 26))⟩]) (.seq (.seq (.reg [⟨(some 27), none, (.mv (.tmp 6))⟩, ⟨(some 28), none, (.mv (.tmp 0))⟩, ⟨(some 29), none, (.callf (.func 60) [(.tmp 28)])⟩, ⟨(some 30), none, (.callf (.func 58) [(.tmp 29)])⟩, ⟨(some 31), none, (.bin .neq (.tmp 27) (.tmp 30))⟩, ⟨(some 32), none, (.mv (.tmp 31))⟩, ⟨(some 33), (some (32, false)), (.mv (.tmp 6))⟩, ⟨(some 34), (some (32, false)), (.mv (.tmp 3))⟩, ⟨(some 35), (some (32, false)), (.mv (.tmp 4))⟩, ⟨(some 36), (some (32, false)), (.mm false (.tmp 34) (.tmp 35))⟩, ⟨(some 37), (some (32, false)), (.bin .gtr (.tmp 33) (.tmp 36))⟩, ⟨(some 38), none, (.pick (.tmp 32) (.const (.bool true)) (.tmp 37))⟩]) (.cond (.tmp 38) (.seq (.reg [⟨(some 2), none, (.mv (.const (.bool false)))⟩]) .ret) .skip)) (.seq (.reg [⟨(some 39), none, (.mv (.tmp 3))⟩, ⟨(some 40), none, (.mv (.tmp 4))⟩, ⟨(some 41), none, (.bin .neq (.tmp 39) (.tmp 40))⟩, ⟨(some 42), none, (.mv (.tmp 41))⟩, ⟨(some 43), (some (42, false)), (.mv (.tmp 6))⟩, ⟨(some 44), (some (42, false)), (.mv (.tmp 3))⟩, ⟨(some 45), (some (42, false)), (.bin .eql (.tmp 43) (.tmp 44))⟩, ⟨(some 46), (some (42, false)), (.mv (.tmp 0))⟩, ⟨(some 47), (some (42, false)), (.callf (.func 62) [(.tmp 46)])⟩, ⟨(some 48), (some (42, false)), (.callf (.func 61) [(.tmp 47)])⟩, ⟨(some 49), (some (42, false)), (.field 0 1 false (.tmp 48))⟩, ⟨(some 50), (some (42, false)), (.bin .neq (.tmp 49) (.const (.string ⟨#[48]⟩)))⟩, ⟨(some 51), (some (42, false)), (.beq false (.tmp 45) (.tmp 50))⟩, ⟨(some 52), none, (.pick (.tmp 42) (.const (.bool true)) (.tmp 51))⟩, ⟨(some 53), none, (.mv (.tmp 52))⟩, ⟨(some 54), (some (53, true)), (.callf (.func 55) [])⟩, ⟨(some 55), none, (.pick (.tmp 53) (.tmp 54) (.const (.bool false)))⟩, ⟨(some 2), none, (.mv (.tmp 55))⟩]) .ret))))))
theorem cc11 : ccode Try.prog [] (Try.f11.body.getD .skip) = some c11 := by kernel_rfl
theorem body11 : Try.f11.body = some (Try.f11.body.getD .skip) := rfl

theorem linRank_C (m : MM) (hl : (osl m).length ≤ 9223372036854775807) : PureC Try.prog 11 [aM m] (.ret (aB true)) := by
  have hs := lsides_C m hl
  have hf := lfew_C m
  have haw := awake6_C
  unfold lsidesV at hs
  by_cases c1 : fewM m = true
  case neg =>
    rw [show fewM m = false by simpa using c1] at hf
    by_cases c2 : rectTo m (osl m).length = true
    · rw [if_pos c2] at hs
      generalize cols m = W at *
      refine pureC_of (rs := [(RV.tmp 2)]) Try.func11 (fun a w => Try.call11 a w) body11 cc11 (by kernel_rfl) ?_
      rw [Try.ntmps11]
      simp only [frs, Nat.reduceAdd, Nat.reduceSub]
      repeat (first | (with_reducible first | refine Way.imp ?_ | refine blk_o rfl ?_) | ((with_reducible refine WayR.imp (fun K hK => ?_)); simp (disch := first | omega | (simp only [dls]; omega)) only [std, reduceIte, reduceCtorEq, Int.reduceToNat, Nat.reduceAdd, Nat.reduceSub, Nat.reduceMul, Int.reduceAdd, Int.reduceSub, Int.reduceMul, Int.reduceNeg, fU, constAV_arr]; subst hK) | refine zcA (hs) rfl rfl rfl ?_ | refine zcA (hf) rfl rfl rfl ?_ | refine zcA (haw) rfl rfl rfl ?_)
      exact ⟨_, rfl, rfl⟩
    · rw [if_neg c2] at hs
      refine pureC_of (rs := [(RV.tmp 2)]) Try.func11 (fun a w => Try.call11 a w) body11 cc11 (by kernel_rfl) ?_
      rw [Try.ntmps11]
      simp only [frs, Nat.reduceAdd, Nat.reduceSub]
      repeat (first | (with_reducible first | refine Way.imp ?_ | refine blk_o rfl ?_) | ((with_reducible refine WayR.imp (fun K hK => ?_)); simp (disch := first | omega | (simp only [dls]; omega)) only [std, reduceIte, reduceCtorEq, Int.reduceToNat, Nat.reduceAdd, Nat.reduceSub, Nat.reduceMul, Int.reduceAdd, Int.reduceSub, Int.reduceMul, Int.reduceNeg, fU, constAV_arr]; subst hK) | refine zcA (hs) rfl rfl rfl ?_ | refine zcA (hf) rfl rfl rfl ?_ | refine zcA (haw) rfl rfl rfl ?_)
      exact ⟨_, rfl, rfl⟩
  rw [c1] at hf
  by_cases c2 : rectTo m (osl m).length = true
  case neg =>
    rw [if_neg c2] at hs
    refine pureC_of (rs := [(RV.tmp 2)]) Try.func11 (fun a w => Try.call11 a w) body11 cc11 (by kernel_rfl) ?_
    rw [Try.ntmps11]
    simp only [frs, Nat.reduceAdd, Nat.reduceSub]
    repeat (first | (with_reducible first | refine Way.imp ?_ | refine blk_o rfl ?_) | ((with_reducible refine WayR.imp (fun K hK => ?_)); simp (disch := first | omega | (simp only [dls]; omega)) only [std, reduceIte, reduceCtorEq, Int.reduceToNat, Nat.reduceAdd, Nat.reduceSub, Nat.reduceMul, Int.reduceAdd, Int.reduceSub, Int.reduceMul, Int.reduceNeg, fU, constAV_arr]; subst hK) | refine zcA (hs) rfl rfl rfl ?_ | refine zcA (hf) rfl rfl rfl ?_ | refine zcA (haw) rfl rfl rfl ?_)
    exact ⟨_, rfl, rfl⟩
  rw [if_pos c2] at hs
  by_cases c3 : cols m ≤ 4
  case neg =>
    generalize cols m = W at *
    refine pureC_of (rs := [(RV.tmp 2)]) Try.func11 (fun a w => Try.call11 a w) body11 cc11 (by kernel_rfl) ?_
    rw [Try.ntmps11]
    simp only [frs, Nat.reduceAdd, Nat.reduceSub]
    repeat (first | (with_reducible first | refine Way.imp ?_ | refine blk_o rfl ?_) | ((with_reducible refine WayR.imp (fun K hK => ?_)); simp (disch := first | omega | (simp only [dls]; omega)) only [std, reduceIte, reduceCtorEq, Int.reduceToNat, Nat.reduceAdd, Nat.reduceSub, Nat.reduceMul, Int.reduceAdd, Int.reduceSub, Int.reduceMul, Int.reduceNeg, fU, constAV_arr]; subst hK) | refine zcA (hs) rfl rfl rfl ?_ | refine zcA (hf) rfl rfl rfl ?_ | refine zcA (haw) rfl rfl rfl ?_)
    exact ⟨_, rfl, rfl⟩
  have hmf := fewM_fits c1
  have hm1 := fewM_len c1
  have hok := ok_of hmf (by decide) c2
  have hrk := rank_C m 8 3 hmf (by decide) (by decide) (by have := pow4_4 hm1; omega)
  have htn := turn_C hmf c2
  have hTf : FitsM (rowO ((turnQ m).map rawV)) 8 3 ∧ (osl (rowO ((turnQ m).map rawV))).length ≤ 4 := by
    have hl : (osl (rowO ((turnQ m).map rawV))).length = cols m := by rw [osl_rowO, List.length_map, (shp_turn m).1]
    refine ⟨⟨by omega, fun v hv => ?_⟩, by omega⟩
    rw [osl_rowO] at hv
    exact (fits_rawM (k := 8) (wf_turn hmf (by decide)) (cols_le hmf) hmf.1).2 v hv
  have hrt := rank_C (rowO ((turnQ m).map rawV)) 8 3 hTf.1 (by decide) (by decide) (by have := pow4_4 hTf.2; omega)
  rw [rank_turn hmf (by decide) c2] at hrt
  have hinv := red_inv (shp_qM c2) (cols m) (Nat.le_refl _)
  have hrv : rankQ m = (redTo (qM m) (cols m)).2.length := by unfold rankQ; rw [if_pos hok]
  have hr1 : rankQ m ≤ (osl m).length := by rw [hrv]; exact hinv.le
  have hr2 : rankQ m ≤ cols m := by rw [hrv]; exact hinv.len_le
  by_cases c4 : cols m = (osl m).length
  case neg =>
    clear hrv hinv
    generalize rowO ((turnQ m).map rawV) = T at *
    generalize cols m = W at *
    generalize rankQ m = rk at *
    refine pureC_of (rs := [(RV.tmp 2)]) Try.func11 (fun a w => Try.call11 a w) body11 cc11 (by kernel_rfl) ?_
    rw [Try.ntmps11]
    simp only [frs, Nat.reduceAdd, Nat.reduceSub]
    repeat (first | (with_reducible first | refine Way.imp ?_ | refine blk_o rfl ?_) | ((with_reducible refine WayR.imp (fun K hK => ?_)); simp (disch := first | omega | (simp only [dls]; omega)) only [std, reduceIte, reduceCtorEq, Int.reduceToNat, Nat.reduceAdd, Nat.reduceSub, Nat.reduceMul, Int.reduceAdd, Int.reduceSub, Int.reduceMul, Int.reduceNeg, fU, constAV_arr]; subst hK) | refine zcA (hs) rfl rfl rfl ?_ | refine zcA (hf) rfl rfl rfl ?_ | refine zcA (hrk) rfl rfl rfl ?_ | refine zcA (htn) rfl rfl rfl ?_ | refine zcA (hrt) rfl rfl rfl ?_ | refine zcA (haw) rfl rfl rfl ?_)
    exact ⟨_, rfl, rfl⟩
  have hrows := lrows_C m 8 3 hmf (by decide) (by decide)
  have hdet := det_few c1 c2 c4
  have hdr := det_rank (shp_qM c2) hm1 (Nat.le_of_eq c4.symm)
  have hshp := shp_qM c2
  rw [c4] at hshp hrv
  rw [← detL_eq hshp, ← hrv] at hdr
  have hzb := decZ_zb (detL (osl m).length (qM m))
  rw [c4] at hs hr2
  clear hrv hinv hshp
  generalize rowO ((turnQ m).map rawV) = T at *
  generalize rowO (rowsD m) = DD at *
  generalize detL (osl m).length (qM m) = dt at *
  generalize rankQ m = rk at *
  by_cases c5 : dt = 0
  · have hne := hdr.1 c5
    rw [decide_eq_true c5] at hzb
    refine pureC_of (rs := [(RV.tmp 2)]) Try.func11 (fun a w => Try.call11 a w) body11 cc11 (by kernel_rfl) ?_
    rw [Try.ntmps11]
    simp only [frs, Nat.reduceAdd, Nat.reduceSub]
    repeat (first | (with_reducible first | refine Way.imp ?_ | refine blk_o rfl ?_) | ((with_reducible refine WayR.imp (fun K hK => ?_)); simp (disch := first | omega | (simp only [dls]; omega)) only [std, reduceIte, reduceCtorEq, Int.reduceToNat, Nat.reduceAdd, Nat.reduceSub, Nat.reduceMul, Int.reduceAdd, Int.reduceSub, Int.reduceMul, Int.reduceNeg, fU, constAV_arr, hzb, Bool.not_true, Bool.not_false, beq_self_eq_true]; subst hK) | refine zcA (hs) rfl rfl rfl ?_ | refine zcA (hf) rfl rfl rfl ?_ | refine zcA (hrk) rfl rfl rfl ?_ | refine zcA (htn) rfl rfl rfl ?_ | refine zcA (hrt) rfl rfl rfl ?_ | (apply call_any_g (hrows) rfl; (case hg => simp (disch := first | omega | (simp only [dls]; omega)) only [std, reduceIte, reduceCtorEq, Int.reduceToNat, Nat.reduceAdd, Nat.reduceSub, Nat.reduceMul, Int.reduceAdd, Int.reduceSub, Int.reduceMul, Int.reduceNeg, fU, constAV_arr, hzb, Bool.not_true, Bool.not_false, beq_self_eq_true]); (case hcl => (simp only [evs, St.ev, constAV, evl]; (repeat (first | exact closeAVs_nil | (apply closeAVs_cons; (first | (refine close_own3 rfl (by decide)) | (refine close_ownO rfl (by decide) ?_; assumption) | rfl)))); done)); (case hu => rfl)) | (apply call_any_g (hdet) rfl; (case hg => simp (disch := first | omega | (simp only [dls]; omega)) only [std, reduceIte, reduceCtorEq, Int.reduceToNat, Nat.reduceAdd, Nat.reduceSub, Nat.reduceMul, Int.reduceAdd, Int.reduceSub, Int.reduceMul, Int.reduceNeg, fU, constAV_arr, hzb, Bool.not_true, Bool.not_false, beq_self_eq_true]); (case hcl => (simp only [evs, St.ev, constAV, evl]; (repeat (first | exact closeAVs_nil | (apply closeAVs_cons; (first | (refine close_own3 rfl (by decide)) | (refine close_ownO rfl (by decide) ?_; assumption) | rfl)))); done)); (case hu => rfl)) | refine zcA (haw) rfl rfl rfl ?_)
    exact ⟨_, rfl, rfl⟩
  · have heq : rk = (osl m).length := Classical.byContradiction (fun h => c5 (hdr.2 h))
    rw [decide_eq_false c5] at hzb
    refine pureC_of (rs := [(RV.tmp 2)]) Try.func11 (fun a w => Try.call11 a w) body11 cc11 (by kernel_rfl) ?_
    rw [Try.ntmps11]
    simp only [frs, Nat.reduceAdd, Nat.reduceSub]
    repeat (first | (with_reducible first | refine Way.imp ?_ | refine blk_o rfl ?_) | ((with_reducible refine WayR.imp (fun K hK => ?_)); simp (disch := first | omega | (simp only [dls]; omega)) only [std, reduceIte, reduceCtorEq, Int.reduceToNat, Nat.reduceAdd, Nat.reduceSub, Nat.reduceMul, Int.reduceAdd, Int.reduceSub, Int.reduceMul, Int.reduceNeg, fU, constAV_arr, hzb, Bool.not_true, Bool.not_false, beq_self_eq_true]; subst hK) | refine zcA (hs) rfl rfl rfl ?_ | refine zcA (hf) rfl rfl rfl ?_ | refine zcA (hrk) rfl rfl rfl ?_ | refine zcA (htn) rfl rfl rfl ?_ | refine zcA (hrt) rfl rfl rfl ?_ | (apply call_any_g (hrows) rfl; (case hg => simp (disch := first | omega | (simp only [dls]; omega)) only [std, reduceIte, reduceCtorEq, Int.reduceToNat, Nat.reduceAdd, Nat.reduceSub, Nat.reduceMul, Int.reduceAdd, Int.reduceSub, Int.reduceMul, Int.reduceNeg, fU, constAV_arr, hzb, Bool.not_true, Bool.not_false, beq_self_eq_true]); (case hcl => (simp only [evs, St.ev, constAV, evl]; (repeat (first | exact closeAVs_nil | (apply closeAVs_cons; (first | (refine close_own3 rfl (by decide)) | (refine close_ownO rfl (by decide) ?_; assumption) | rfl)))); done)); (case hu => rfl)) | (apply call_any_g (hdet) rfl; (case hg => simp (disch := first | omega | (simp only [dls]; omega)) only [std, reduceIte, reduceCtorEq, Int.reduceToNat, Nat.reduceAdd, Nat.reduceSub, Nat.reduceMul, Int.reduceAdd, Int.reduceSub, Int.reduceMul, Int.reduceNeg, fU, constAV_arr, hzb, Bool.not_true, Bool.not_false, beq_self_eq_true]); (case hcl => (simp only [evs, St.ev, constAV, evl]; (repeat (first | exact closeAVs_nil | (apply closeAVs_cons; (first | (refine close_own3 rfl (by decide)) | (refine close_ownO rfl (by decide) ?_; assumption) | rfl)))); done)); (case hu => rfl)) | refine zcA (haw) rfl rfl rfl ?_)
    exact ⟨_, rfl, rfl⟩

end Go.Proofs.Ytdhkdnmefeeclaa
