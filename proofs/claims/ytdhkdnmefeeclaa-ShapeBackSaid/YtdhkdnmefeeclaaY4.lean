/- The law ShapeBack: the walk. -/
import Derived.Test.YtdhkdnmefeeclaaY2
set_option linter.unusedSimpArgs false
set_option linter.unusedVariables false
set_option linter.unnecessarySimpa false
set_option linter.unusedSimpArgs false
set_option linter.unusedVariables false
set_option maxRecDepth 100000
set_option maxHeartbeats 4000000
namespace Go.Proofs.Ytdhkdnmefeeclaa
open Go Go.Am Go.Proofs Go.RowKit Go.Off

theorem fits_slack {m : MD} {x : VV} (rt : RtMd m) (hf : FitsMd m 8 3) (hx : FitsV x 8 3) (hR : (osl m.rows).length ≤ 6) : FitsV (rowV (slackL m x)) 14 70 := by
  have hs := slackN_le m (osl m.rows).length
  refine fits_rw (by rw [slackL_len]; have := hx.1; omega) (fun q hq => ?_)
  unfold slackL at hq
  rcases List.mem_append.1 hq with hq | hq
  · obtain ⟨r, hr, rfl⟩ := List.mem_map.1 hq
    exact ((hx.2 r hr).val (by decide)).mono (by decide)
  · obtain ⟨i, hi, _, rfl⟩ := slTo_mem m x _ (Nat.le_refl _) q hq
    have h1 := hf.2 _ (List.getElem_mem hi)
    rw [← rwAt_in hi] at h1
    have h2 : FitsQ ((rwAt m i).b.val - dotV (rwAt m i).coef x) (3 + (8 * (2 * 3 + 1) + 1) + 1) := by
      rw [Rat.sub_eq_add_neg]
      exact (h1.2.val (by decide)).add1 (fits_dot h1.1 hx (by decide)).neg
    obtain ⟨_, r1, r2⟩ := rt.row i hi
    exact (h2.mul (fits_int (0 - (rwAt m i).rel) (by omega) (by omega))).mono (by decide)
theorem same_back {m : MD} {x : VV} (hx : (osl x).length = (osl m.vars).length) : sameQ (rowV (backL m (rowV (slackL m x)))) x = true := by
  rw [slackL_back hx]
  refine same_of (by rw [rowV_len, List.length_map]) (fun k hk => ?_)
  rw [rowV_len, List.length_map] at hk
  rw [rowV_get, List.getD_eq_getElem?_getD, List.getElem?_map, List.getElem?_eq_getElem hk]
  unfold qAt; rw [rAt_in hk]; rfl
theorem dot_same {c a b : VV} (hl : (osl a).length = (osl b).length) (h : ∀ k, qAt a k = qAt b k) : dotV c a = dotV c b := by
  rw [dot_sum, dot_sum]
  unfold vmin
  rw [hl]
  exact sumR_congr (fun k _ => by rw [h])

abbrev c19 : CC := (.seq (.reg [⟨(some 2), none, (.box 91 (.tmp 0))⟩, ⟨(some 4), none, (.mv (.const (.bool false)))⟩]) (.seq (.seq (.reg [⟨(some 9), none, (.load 3 true (.tmp 2))⟩, ⟨(some 10), none, (.callf (.func 71) [(.tmp 9)])⟩, ⟨(some 11), none, (.un .not (.tmp 10))⟩, ⟨(some 12), none, (.mv (.tmp 11))⟩, ⟨(some 13), (some (12, false)), (.mv (.tmp 1))⟩, ⟨(some 14), (some (12, false)), (.callf (.func 26) [(.tmp 13)])⟩, ⟨(some 15), (some (12, false)), (.un .not (.tmp 14))⟩, ⟨(some 16), none, (.pick (.tmp 12) (.const (.bool true)) (.tmp 15))⟩, ⟨(some 17), none, (.mv (.tmp 16))⟩, ⟨(some 18), (some (17, false)), (.load 3 true (.tmp 2))⟩, ⟨(some 19), (some (17, false)), (.callf (.func 73) [(.tmp 18)])⟩, ⟨(some 20), (some (17, false)), (.un .not (.tmp 19))⟩, ⟨(some 21), none, (.pick (.tmp 17) (.const (.bool true)) (.tmp 20))⟩]) (.cond (.tmp 21) (.seq (.reg [⟨(some 22), none, (.callf (.func 67) [])⟩, ⟨(some 4), none, (.mv (.tmp 22))⟩]) .ret) .skip)) (.seq (.reg [⟨(some 24), none, (.load 3 true (.tmp 2))⟩, ⟨(some 25), none, (.callf (.func 72) [(.tmp 24)])⟩, ⟨(some 23), none, (.mv (.tmp 25))⟩, ⟨(some 26), none, (.ext (.tmp 23) 0)⟩, ⟨(some 27), none, (.ext (.tmp 23) 1)⟩, ⟨(some 5), none, (.new 86 [(.slice none 0 0), (.slice none 0 0), (.slice none 0 0)])⟩, ⟨none, none, (.store 3 (.tmp 5) (.tmp 26))⟩, ⟨(some 6), none, (.mv (.tmp 27))⟩]) (.seq (.reg [⟨(some 29), none, (.load 3 true (.tmp 2))⟩, ⟨(some 30), none, (.mv (.tmp 1))⟩, ⟨(some 31), none, (.callf (.func 80) [(.tmp 29), (.tmp 30)])⟩, ⟨(some 28), none, (.mv (.tmp 31))⟩, ⟨(some 32), none, (.ext (.tmp 28) 0)⟩, ⟨(some 33), none, (.ext (.tmp 28) 1)⟩, ⟨(some 7), none, (.mv (.tmp 32))⟩, ⟨(some 8), none, (.mv (.tmp 33))⟩]) (.seq (.seq (.reg [⟨(some 34), none, (.mv (.tmp 8))⟩, ⟨(some 35), none, (.load 3 true (.tmp 2))⟩, ⟨(some 36), none, (.mv (.tmp 1))⟩, ⟨(some 37), none, (.callf (.func 75) [(.tmp 35), (.tmp 36)])⟩, ⟨(some 38), none, (.beq true (.tmp 34) (.tmp 37))⟩]) (.cond (.tmp 38) (.seq (.reg [⟨(some 4), none, (.mv (.const (.bool false)))⟩]) .ret) .skip)) (.seq (.seq (.reg [⟨(some 39), none, (.mv (.tmp 8))⟩, ⟨(some 40), none, (.un .not (.tmp 39))⟩]) (.cond (.tmp 40) (.seq (.reg [⟨(some 41), none, (.mv (.tmp 7))⟩, ⟨(some 42), none, (.len false (.tmp 41))⟩, ⟨(some 43), none, (.bin .eql (.tmp 42) (.const (.int .i64 (0))))⟩, ⟨(some 44), none, (.mv (.tmp 43))⟩, ⟨(some 45), (some (44, true)), (.callf (.func 67) [])⟩, ⟨(some 46), none, (.pick (.tmp 44) (.tmp 45) (.const (.bool false)))⟩, ⟨(some 4), none, (.mv (.tmp 46))⟩]) .ret) .skip)) (.seq (.reg [⟨(some 47), none, (.load 3 true (.tmp 5))⟩, ⟨(some 48), none, (.mv (.tmp 7))⟩, ⟨(some 49), none, (.callf (.func 69) [(.tmp 47), (.tmp 48)])⟩, ⟨(some 50), none, (.mv (.tmp 49))⟩, ⟨(some 51), (some (50, true)), (.load 3 true (.tmp 2))⟩, ⟨(some 52), (some (50, true)), (.mv (.tmp 7))⟩, ⟨(some 53), (some (50, true)), (.callf (.func 74) [(.tmp 51), (.tmp 52)])⟩, ⟨(some 54), (some (50, true)), (.mv (.tmp 1))⟩, ⟨(some 55), (some (50, true)), (.callf (.func 51) [(.tmp 53), (.tmp 54)])⟩, ⟨(some 56), none, (.pick (.tmp 50) (.tmp 55) (.const (.bool false)))⟩, ⟨(some 57), none, (.mv (.tmp 56))⟩, ⟨(some 58), (some (57, true)), (.faddr 2 (.tmp 5))⟩, ⟨(some 59), (some (57, true)), (.load 1 false (.tmp 58))⟩, ⟨(some 60), (some (57, true)), (.mv (.tmp 7))⟩, ⟨(some 61), (some (57, true)), (.callf (.func 41) [(.tmp 59), (.tmp 60)])⟩, ⟨(some 62), (some (57, true)), (.load 3 true (.tmp 2))⟩, ⟨(some 63), (some (57, true)), (.mv (.tmp 1))⟩, ⟨(some 64), (some (57, true)), (.callf (.func 76) [(.tmp 62), (.tmp 63)])⟩, ⟨(some 65), (some (57, true)), (.callf (.func 46) [(.tmp 61), (.tmp 64)])⟩, ⟨(some 66), (some (57, true)), (.bin .eql (.tmp 65) (.const (.int .i64 (0))))⟩, ⟨(some 67), none, (.pick (.tmp 57) (.tmp 66) (.const (.bool false)))⟩, ⟨(some 68), none, (.mv (.tmp 67))⟩, ⟨(some 69), (some (68, true)), (.callf (.func 67) [])⟩, ⟨(some 70), none, (.pick (.tmp 68) (.tmp 69) (.const (.bool false)))⟩, ⟨(some 4), none, (.mv (.tmp 70))⟩]) .ret)))))))
theorem cc19 : ccode Try.prog [] (Try.f19.body.getD .skip) = some c19 := by kernel_rfl
theorem body19 : Try.f19.body = some (Try.f19.body.getD .skip) := rfl

theorem shapeBack_C (m : MD) (x : VV) : PureC Try.prog 19 [aMd m, aV x] (.ret (aB true)) := by
  have hfm := fewMd_C m
  have hfx := few_C x
  have haw := awake11_C
  cases c1 : fewMd m with
  | false =>
    rw [c1] at hfm
    refine pureC_of (rs := [(RV.tmp 4)]) Try.func19 (fun a w => Try.call19 a w) body19 cc19 (by kernel_rfl) ?_
    rw [Try.ntmps19]
    simp only [frs, Nat.reduceAdd, Nat.reduceSub]
    repeat (first | (with_reducible first | refine Way.imp ?_ | refine blk_o rfl ?_) | ((with_reducible refine WayR.imp (fun K hK => ?_)); simp (disch := first | omega | (simp only [dls]; omega)) only [std, reduceIte, reduceCtorEq, Int.reduceToNat, Nat.reduceAdd, Nat.reduceSub, Nat.reduceMul, Int.reduceAdd, Int.reduceSub, Int.reduceMul, Int.reduceNeg, fU]; subst hK) | refine zcA (hfm) rfl rfl rfl ?_ | refine zcA (haw) rfl rfl rfl ?_)
    exact ⟨_, rfl, rfl⟩
  | true =>
  rw [c1] at hfm
  cases c2 : fewB x with
  | false =>
    rw [c2] at hfx
    refine pureC_of (rs := [(RV.tmp 4)]) Try.func19 (fun a w => Try.call19 a w) body19 cc19 (by kernel_rfl) ?_
    rw [Try.ntmps19]
    simp only [frs, Nat.reduceAdd, Nat.reduceSub]
    repeat (first | (with_reducible first | refine Way.imp ?_ | refine blk_o rfl ?_) | ((with_reducible refine WayR.imp (fun K hK => ?_)); simp (disch := first | omega | (simp only [dls]; omega)) only [std, reduceIte, reduceCtorEq, Int.reduceToNat, Nat.reduceAdd, Nat.reduceSub, Nat.reduceMul, Int.reduceAdd, Int.reduceSub, Int.reduceMul, Int.reduceNeg, fU]; subst hK) | refine zcA (hfm) rfl rfl rfl ?_ | (apply call_any_g (hfx) rfl; (case hg => simp (disch := first | omega | (simp only [dls]; omega)) only [std, reduceIte, reduceCtorEq, Int.reduceToNat, Nat.reduceAdd, Nat.reduceSub, Nat.reduceMul, Int.reduceAdd, Int.reduceSub, Int.reduceMul, Int.reduceNeg, fU]); (case hcl => (simp only [evs, St.ev, constAV, evl]; (repeat (first | exact closeAVs_nil | (apply closeAVs_cons; (first | (refine close_own3 rfl (by decide)) | (refine close_ownO rfl (by decide) ?_; assumption) | rfl)))); done)); (case hu => rfl)) | refine zcA (haw) rfl rfl rfl ?_)
    exact ⟨_, rfl, rfl⟩
  | true =>
  rw [c2] at hfx
  have fm := fewMd_is c1
  have fx := fewB_fits c2
  have hm := mright_C m fm.names fm.rnames
  cases c3 : rightMd m with
  | false =>
    rw [c3] at hm
    refine pureC_of (rs := [(RV.tmp 4)]) Try.func19 (fun a w => Try.call19 a w) body19 cc19 (by kernel_rfl) ?_
    rw [Try.ntmps19]
    simp only [frs, Nat.reduceAdd, Nat.reduceSub]
    repeat (first | (with_reducible first | refine Way.imp ?_ | refine blk_o rfl ?_) | ((with_reducible refine WayR.imp (fun K hK => ?_)); simp (disch := first | omega | (simp only [dls]; omega)) only [std, reduceIte, reduceCtorEq, Int.reduceToNat, Nat.reduceAdd, Nat.reduceSub, Nat.reduceMul, Int.reduceAdd, Int.reduceSub, Int.reduceMul, Int.reduceNeg, fU]; subst hK) | refine zcA (hfm) rfl rfl rfl ?_ | (apply call_any_g (hfx) rfl; (case hg => simp (disch := first | omega | (simp only [dls]; omega)) only [std, reduceIte, reduceCtorEq, Int.reduceToNat, Nat.reduceAdd, Nat.reduceSub, Nat.reduceMul, Int.reduceAdd, Int.reduceSub, Int.reduceMul, Int.reduceNeg, fU]); (case hcl => (simp only [evs, St.ev, constAV, evl]; (repeat (first | exact closeAVs_nil | (apply closeAVs_cons; (first | (refine close_own3 rfl (by decide)) | (refine close_ownO rfl (by decide) ?_; assumption) | rfl)))); done)); (case hu => rfl)) | (apply call_any_g (hm) rfl; (case hg => simp (disch := first | omega | (simp only [dls]; omega)) only [std, reduceIte, reduceCtorEq, Int.reduceToNat, Nat.reduceAdd, Nat.reduceSub, Nat.reduceMul, Int.reduceAdd, Int.reduceSub, Int.reduceMul, Int.reduceNeg, fU]); (case hcl => (simp only [evs, St.ev, constAV, evl]; (repeat (first | exact closeAVs_nil | (apply closeAVs_cons; (first | (refine close_own3 rfl (by decide)) | (refine close_ownO rfl (by decide) ?_; assumption) | rfl)))); done)); (case hu => rfl)) | refine zcA (haw) rfl rfl rfl ?_)
    exact ⟨_, rfl, rfl⟩
  | true =>
  rw [c3] at hm
  have rt := rt_of c3
  have hR6 := fm.rows
  have hof := sof_yes m 8 3 fm.fits (by decide) (by decide) (by decide) fm.names fm.rnames c3
  have hfe := feas_C m x 8 3 fm.fits fx (by decide) (by decide) (by decide) (by omega)
  cases c4 : feasB m x with
  | false =>
    rw [c4] at hfe
    have hsl := slack_no m x 8 3 fm.fits fx (by decide) (by decide) (by decide) (by omega) fm.names fm.rnames (.inr c4)
    generalize ofP m = P at *
    refine pureC_of (rs := [(RV.tmp 4)]) Try.func19 (fun a w => Try.call19 a w) body19 cc19 (by kernel_rfl) ?_
    rw [Try.ntmps19]
    simp only [frs, Nat.reduceAdd, Nat.reduceSub]
    repeat (first | (with_reducible first | refine Way.imp ?_ | refine blk_o rfl ?_) | ((with_reducible refine WayR.imp (fun K hK => ?_)); simp (disch := first | omega | (simp only [dls]; omega)) only [std, reduceIte, reduceCtorEq, Int.reduceToNat, Nat.reduceAdd, Nat.reduceSub, Nat.reduceMul, Int.reduceAdd, Int.reduceSub, Int.reduceMul, Int.reduceNeg, fU, beq_self_eq_true, Bool.not_true]; subst hK) | refine zcA (hfm) rfl rfl rfl ?_ | (apply call_any_g (hfx) rfl; (case hg => simp (disch := first | omega | (simp only [dls]; omega)) only [std, reduceIte, reduceCtorEq, Int.reduceToNat, Nat.reduceAdd, Nat.reduceSub, Nat.reduceMul, Int.reduceAdd, Int.reduceSub, Int.reduceMul, Int.reduceNeg, fU, beq_self_eq_true, Bool.not_true]); (case hcl => (simp only [evs, St.ev, constAV, evl]; (repeat (first | exact closeAVs_nil | (apply closeAVs_cons; (first | (refine close_own3 rfl (by decide)) | (refine close_ownO rfl (by decide) ?_; assumption) | rfl)))); done)); (case hu => rfl)) | (apply call_any_g (hm) rfl; (case hg => simp (disch := first | omega | (simp only [dls]; omega)) only [std, reduceIte, reduceCtorEq, Int.reduceToNat, Nat.reduceAdd, Nat.reduceSub, Nat.reduceMul, Int.reduceAdd, Int.reduceSub, Int.reduceMul, Int.reduceNeg, fU, beq_self_eq_true, Bool.not_true]); (case hcl => (simp only [evs, St.ev, constAV, evl]; (repeat (first | exact closeAVs_nil | (apply closeAVs_cons; (first | (refine close_own3 rfl (by decide)) | (refine close_ownO rfl (by decide) ?_; assumption) | rfl)))); done)); (case hu => rfl)) | refine zcA (hof) rfl rfl rfl ?_ | refine zcA (hsl) rfl rfl rfl ?_ | refine zcA (hfe) rfl rfl rfl ?_ | (apply call_any_g (haw) rfl; (case hg => simp (disch := first | omega | (simp only [dls]; omega)) only [std, reduceIte, reduceCtorEq, Int.reduceToNat, Nat.reduceAdd, Nat.reduceSub, Nat.reduceMul, Int.reduceAdd, Int.reduceSub, Int.reduceMul, Int.reduceNeg, fU, beq_self_eq_true, Bool.not_true]); (case hcl => (simp only [evs, St.ev, constAV, evl]; (repeat (first | exact closeAVs_nil | (apply closeAVs_cons; (first | (refine close_own3 rfl (by decide)) | (refine close_ownO rfl (by decide) ?_; assumption) | rfl)))); done)); (case hu => rfl)))
    exact ⟨_, rfl, rfl⟩
  | true =>
  rw [c4] at hfe
  have hsl := slack_yes m x 8 3 fm.fits fx (by decide) (by decide) (by decide) fm.names fm.rnames c3 c4
  have fP := fits_ofP rt fm
  have fs := fits_slack rt fm.fits fx hR6
  have hdo := does_C (ofP m) (rowV (slackL m x)) 14 70 (fP.mono (by decide)) fs (by decide) (by decide) (by decide)
  rw [feas_does rt c4] at hdo
  have hxl := ((feas_iff _ _).1 c4).1
  have hsN : (osl (rowV (slackL m x))).length = ofN m := by rw [rowV_len, slackL_len, hxl]; rfl
  have hb := back_yes m (rowV (slackL m x)) 14 70 fs (by decide) (by decide) (by decide) (by rw [hsN]; unfold ofN; omega)
  have fb := fits_back (m := m) fs (by decide)
  have hsm := vsame_C (rowV (backL m (rowV (slackL m x)))) x 14 70 fb ⟨by have := fx.1; omega, fun r hr => (fx.2 r hr).mono (by decide)⟩ (by decide) (by decide)
  rw [same_back hxl] at hsm
  have hd1 := dot_C (ofP m).C (rowV (slackL m x)) 14 70 (fP.2.2.monoL (by decide)) fs (by decide) (by decide) (by decide)
  rw [dot_ofC rt hsN] at hd1
  have hva := value_C m x 8 3 fm.fits.1 fx (by decide) (by decide) (by decide)
  have hdd : dotV m.cost (rowV (backL m (rowV (slackL m x)))) = dotV m.cost x := by
    rw [slackL_back hxl]
    refine dot_same (by rw [rowV_len, List.length_map]) (fun k => ?_)
    rw [rowV_get, List.getD_eq_getElem?_getD, List.getElem?_map]
    unfold qAt rAt
    rw [List.getD_eq_getElem?_getD]
    cases (osl x)[k]? with
    | none => exact zR_val.symm
    | some r => rfl
  rw [hdd] at hd1
  have hfd := fits_dot fm.fits.1 fx (by decide)
  have hcm := rcompare_C (rawQ (dotV m.cost x)) (rawQ (dotV m.cost x)) ((fits_rawQ hfd).mono (by decide)) ((fits_rawQ hfd).mono (by decide))
  rw [cmp_eq] at hcm
  clear fP fs fb hsN hdd
  generalize rawQ (dotV m.cost x) = q at *
  generalize ofP m = P at *
  generalize rowV (backL m (rowV (slackL m x))) = z at *
  generalize rowV (slackL m x) = y at *
  refine pureC_of (rs := [(RV.tmp 4)]) Try.func19 (fun a w => Try.call19 a w) body19 cc19 (by kernel_rfl) ?_
  rw [Try.ntmps19]
  simp only [frs, Nat.reduceAdd, Nat.reduceSub]
  repeat (first | (with_reducible first | refine Way.imp ?_ | refine blk_o rfl ?_) | ((with_reducible refine WayR.imp (fun K hK => ?_)); simp (disch := first | omega | (simp only [dls]; omega)) only [std, reduceIte, reduceCtorEq, Int.reduceToNat, Nat.reduceAdd, Nat.reduceSub, Nat.reduceMul, Int.reduceAdd, Int.reduceSub, Int.reduceMul, Int.reduceNeg, fU, beq_self_eq_true, Bool.not_true]; subst hK) | refine zcA (hfm) rfl rfl rfl ?_ | (apply call_any_g (hfx) rfl; (case hg => simp (disch := first | omega | (simp only [dls]; omega)) only [std, reduceIte, reduceCtorEq, Int.reduceToNat, Nat.reduceAdd, Nat.reduceSub, Nat.reduceMul, Int.reduceAdd, Int.reduceSub, Int.reduceMul, Int.reduceNeg, fU, beq_self_eq_true, Bool.not_true]); (case hcl => (simp only [evs, St.ev, constAV, evl]; (repeat (first | exact closeAVs_nil | (apply closeAVs_cons; (first | (refine close_own3 rfl (by decide)) | (refine close_ownO rfl (by decide) ?_; assumption) | rfl)))); done)); (case hu => rfl)) | (apply call_any_g (hm) rfl; (case hg => simp (disch := first | omega | (simp only [dls]; omega)) only [std, reduceIte, reduceCtorEq, Int.reduceToNat, Nat.reduceAdd, Nat.reduceSub, Nat.reduceMul, Int.reduceAdd, Int.reduceSub, Int.reduceMul, Int.reduceNeg, fU, beq_self_eq_true, Bool.not_true]); (case hcl => (simp only [evs, St.ev, constAV, evl]; (repeat (first | exact closeAVs_nil | (apply closeAVs_cons; (first | (refine close_own3 rfl (by decide)) | (refine close_ownO rfl (by decide) ?_; assumption) | rfl)))); done)); (case hu => rfl)) | refine zcA (hof) rfl rfl rfl ?_ | refine zcA (hsl) rfl rfl rfl ?_ | refine zcA (hfe) rfl rfl rfl ?_ | refine zcA (hdo) rfl rfl rfl ?_ | (apply call_any_g (hb) rfl; (case hg => simp (disch := first | omega | (simp only [dls]; omega)) only [std, reduceIte, reduceCtorEq, Int.reduceToNat, Nat.reduceAdd, Nat.reduceSub, Nat.reduceMul, Int.reduceAdd, Int.reduceSub, Int.reduceMul, Int.reduceNeg, fU, beq_self_eq_true, Bool.not_true]); (case hcl => (simp only [evs, St.ev, constAV, evl]; (repeat (first | exact closeAVs_nil | (apply closeAVs_cons; (first | (refine close_own3 rfl (by decide)) | (refine close_ownO rfl (by decide) ?_; assumption) | rfl)))); done)); (case hu => rfl)) | (apply call_any_g (hsm) rfl; (case hg => simp (disch := first | omega | (simp only [dls]; omega)) only [std, reduceIte, reduceCtorEq, Int.reduceToNat, Nat.reduceAdd, Nat.reduceSub, Nat.reduceMul, Int.reduceAdd, Int.reduceSub, Int.reduceMul, Int.reduceNeg, fU, beq_self_eq_true, Bool.not_true]); (case hcl => (simp only [evs, St.ev, constAV, evl]; (repeat (first | exact closeAVs_nil | (apply closeAVs_cons; (first | (refine close_own3 rfl (by decide)) | (refine close_ownO rfl (by decide) ?_; assumption) | rfl)))); done)); (case hu => rfl)) | (apply call_any_g (hd1) rfl; (case hg => simp (disch := first | omega | (simp only [dls]; omega)) only [std, reduceIte, reduceCtorEq, Int.reduceToNat, Nat.reduceAdd, Nat.reduceSub, Nat.reduceMul, Int.reduceAdd, Int.reduceSub, Int.reduceMul, Int.reduceNeg, fU, beq_self_eq_true, Bool.not_true]); (case hcl => (simp only [evs, St.ev, constAV, evl]; (repeat (first | exact closeAVs_nil | (apply closeAVs_cons; (first | (refine close_own3 rfl (by decide)) | (refine close_ownO rfl (by decide) ?_; assumption) | rfl)))); done)); (case hu => rfl)) | (apply call_any_g (hva) rfl; (case hg => simp (disch := first | omega | (simp only [dls]; omega)) only [std, reduceIte, reduceCtorEq, Int.reduceToNat, Nat.reduceAdd, Nat.reduceSub, Nat.reduceMul, Int.reduceAdd, Int.reduceSub, Int.reduceMul, Int.reduceNeg, fU, beq_self_eq_true, Bool.not_true]); (case hcl => (simp only [evs, St.ev, constAV, evl]; (repeat (first | exact closeAVs_nil | (apply closeAVs_cons; (first | (refine close_own3 rfl (by decide)) | (refine close_ownO rfl (by decide) ?_; assumption) | rfl)))); done)); (case hu => rfl)) | (apply call_any_g (hcm) rfl; (case hg => simp (disch := first | omega | (simp only [dls]; omega)) only [std, reduceIte, reduceCtorEq, Int.reduceToNat, Nat.reduceAdd, Nat.reduceSub, Nat.reduceMul, Int.reduceAdd, Int.reduceSub, Int.reduceMul, Int.reduceNeg, fU, beq_self_eq_true, Bool.not_true]); (case hcl => (simp only [evs, St.ev, constAV, evl]; (repeat (first | exact closeAVs_nil | (apply closeAVs_cons; (first | (refine close_own3 rfl (by decide)) | (refine close_ownO rfl (by decide) ?_; assumption) | rfl)))); done)); (case hu => rfl)) | (apply call_any_g (haw) rfl; (case hg => simp (disch := first | omega | (simp only [dls]; omega)) only [std, reduceIte, reduceCtorEq, Int.reduceToNat, Nat.reduceAdd, Nat.reduceSub, Nat.reduceMul, Int.reduceAdd, Int.reduceSub, Int.reduceMul, Int.reduceNeg, fU, beq_self_eq_true, Bool.not_true]); (case hcl => (simp only [evs, St.ev, constAV, evl]; (repeat (first | exact closeAVs_nil | (apply closeAVs_cons; (first | (refine close_own3 rfl (by decide)) | (refine close_ownO rfl (by decide) ?_; assumption) | rfl)))); done)); (case hu => rfl)))
  exact ⟨_, rfl, rfl⟩

end Go.Proofs.Ytdhkdnmefeeclaa
