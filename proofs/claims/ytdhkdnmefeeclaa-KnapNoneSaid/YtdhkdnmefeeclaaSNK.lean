/- The law KnapNone: the walk. -/
import Derived.Test.YtdhkdnmefeeclaaJD
set_option linter.unusedSimpArgs false
set_option linter.unusedVariables false
set_option linter.unnecessarySimpa false
set_option linter.unusedSimpArgs false
set_option linter.unusedVariables false
set_option maxRecDepth 100000
set_option maxHeartbeats 4000000
namespace Go.Proofs.Ytdhkdnmefeeclaa
open Go Go.Am Go.Proofs Go.RowKit Go.Off

theorem bestR_yes {s : ST} {ws : VV} (hr : rightS s = true) (hl : (osl ws).length = (osl s.items).length) (h : s.roll ≤ 512) (hT : totalS s ≤ 64) : bestR s ws = aCh (rawQ (kvS s ws)) (some (takesV s ws)) 0 := by
  unfold bestR
  rw [if_neg (by rw [hr]; simp), if_neg (fun h2 => h2 hl), if_neg (by omega), bestV_kv]
theorem fits_right {s : ST} {t : Option (List Int)} (h : fitsT s t = true) : rightS s = true := by
  unfold fitsT okW at h
  simp only [Bool.and_eq_true] at h
  exact h.1.1

abbrev c22 : CC := (.seq (.reg [⟨(some 3), none, (.box 110 (.tmp 0))⟩, ⟨(some 6), none, (.mv (.const (.bool false)))⟩]) (.seq (.seq (.reg [⟨(some 9), none, (.load 2 true (.tmp 3))⟩, ⟨(some 10), none, (.callf (.func 81) [(.tmp 9)])⟩, ⟨(some 11), none, (.un .not (.tmp 10))⟩, ⟨(some 12), none, (.mv (.tmp 11))⟩, ⟨(some 13), (some (12, false)), (.mv (.tmp 1))⟩, ⟨(some 14), (some (12, false)), (.callf (.func 26) [(.tmp 13)])⟩, ⟨(some 15), (some (12, false)), (.un .not (.tmp 14))⟩, ⟨(some 16), none, (.pick (.tmp 12) (.const (.bool true)) (.tmp 15))⟩, ⟨(some 17), none, (.mv (.tmp 16))⟩, ⟨(some 18), (some (17, false)), (.mv (.tmp 2))⟩, ⟨(some 19), (some (17, false)), (.len false (.tmp 18))⟩, ⟨(some 20), (some (17, false)), (.bin .gtr (.tmp 19) (.const (.int .i64 (4))))⟩, ⟨(some 21), none, (.pick (.tmp 17) (.const (.bool true)) (.tmp 20))⟩, ⟨(some 22), none, (.mv (.tmp 21))⟩, ⟨(some 23), (some (22, false)), (.load 2 true (.tmp 3))⟩, ⟨(some 24), (some (22, false)), (.mv (.tmp 2))⟩, ⟨(some 25), (some (22, false)), (.callf (.func 86) [(.tmp 23), (.tmp 24)])⟩, ⟨(some 26), (some (22, false)), (.un .not (.tmp 25))⟩, ⟨(some 27), none, (.pick (.tmp 22) (.const (.bool true)) (.tmp 26))⟩, ⟨(some 28), none, (.mv (.tmp 27))⟩, ⟨(some 29), (some (28, false)), (.mv (.tmp 1))⟩, ⟨(some 30), (some (28, false)), (.len false (.tmp 29))⟩, ⟨(some 31), (some (28, false)), (.faddr 1 (.tmp 3))⟩, ⟨(some 32), (some (28, false)), (.load 1 false (.tmp 31))⟩, ⟨(some 33), (some (28, false)), (.len false (.tmp 32))⟩, ⟨(some 34), (some (28, false)), (.bin .neq (.tmp 30) (.tmp 33))⟩, ⟨(some 35), none, (.pick (.tmp 28) (.const (.bool true)) (.tmp 34))⟩, ⟨(some 36), none, (.mv (.tmp 35))⟩, ⟨(some 37), (some (36, false)), (.faddr 0 (.tmp 3))⟩, ⟨(some 38), (some (36, false)), (.load 1 false (.tmp 37))⟩, ⟨(some 39), (some (36, false)), (.bin .gtr (.tmp 38) (.const (.int .i64 (512))))⟩, ⟨(some 40), none, (.pick (.tmp 36) (.const (.bool true)) (.tmp 39))⟩]) (.cond (.tmp 40) (.seq (.reg [⟨(some 41), none, (.callf (.func 84) [])⟩, ⟨(some 6), none, (.mv (.tmp 41))⟩]) .ret) .skip)) (.seq (.reg [⟨(some 43), none, (.load 2 true (.tmp 3))⟩, ⟨(some 44), none, (.mv (.tmp 1))⟩, ⟨(some 45), none, (.callf (.func 85) [(.tmp 43), (.tmp 44)])⟩, ⟨(some 42), none, (.mv (.tmp 45))⟩, ⟨(some 46), none, (.ext (.tmp 42) 0)⟩, ⟨(some 47), none, (.ext (.tmp 42) 1)⟩, ⟨(some 7), none, (.new 117 [(.bool false), (.slice none 0 0), (.slice none 0 0), (.slice none 0 0)])⟩, ⟨none, none, (.store 4 (.tmp 7) (.tmp 46))⟩, ⟨(some 8), none, (.mv (.tmp 47))⟩]) (.seq (.reg [⟨(some 48), none, (.mv (.tmp 8))⟩, ⟨(some 49), none, (.bin .eql (.tmp 48) (.const (.int .i64 (0))))⟩, ⟨(some 50), none, (.mv (.tmp 49))⟩, ⟨(some 51), (some (50, true)), (.faddr 0 (.tmp 7))⟩, ⟨(some 52), (some (50, true)), (.load 3 true (.tmp 51))⟩, ⟨(some 53), (some (50, true)), (.mv (.tmp 1))⟩, ⟨(some 54), (some (50, true)), (.mv (.tmp 2))⟩, ⟨(some 55), (some (50, true)), (.callf (.func 87) [(.tmp 53), (.tmp 54)])⟩, ⟨(some 56), (some (50, true)), (.callf (.func 46) [(.tmp 52), (.tmp 55)])⟩, ⟨(some 57), (some (50, true)), (.bin .geq (.tmp 56) (.const (.int .i64 (0))))⟩, ⟨(some 58), none, (.pick (.tmp 50) (.tmp 57) (.const (.bool false)))⟩, ⟨(some 59), none, (.mv (.tmp 58))⟩, ⟨(some 60), (some (59, true)), (.callf (.func 84) [])⟩, ⟨(some 61), none, (.pick (.tmp 59) (.tmp 60) (.const (.bool false)))⟩, ⟨(some 6), none, (.mv (.tmp 61))⟩]) .ret))))
theorem cc22 : ccode Try.prog [] (Try.f22.body.getD .skip) = some c22 := by kernel_rfl
theorem body22 : Try.f22.body = some (Try.f22.body.getD .skip) := rfl

theorem knapNone_C (s : ST) (ws : VV) (t : Option (List Int)) (ht : (osl t).length ≤ 9223372036854775807 ∧ ∀ z ∈ osl t, -9223372036854775808 ≤ z ∧ z ≤ 9223372036854775807) : PureC Try.prog 22 [aSt s, aV ws, aTk t] (.ret (aB true)) := by
  obtain ⟨ht1, ht2⟩ := ht
  have hfs := fewS_C s
  have hfw := few_C ws
  have haw := awake16_C
  cases c1 : fewS s with
  | false =>
    rw [c1] at hfs
    refine pureC_of (rs := [(RV.tmp 6)]) Try.func22 (fun a w => Try.call22 a w) body22 cc22 (by kernel_rfl) ?_
    rw [Try.ntmps22]
    simp only [frs, Nat.reduceAdd, Nat.reduceSub]
    repeat (first | (with_reducible first | refine Way.imp ?_ | refine blk_o rfl ?_) | ((with_reducible refine WayR.imp (fun K hK => ?_)); simp (disch := first | omega | (simp only [dls]; omega)) only [std, reduceIte, reduceCtorEq, Int.reduceToNat, Nat.reduceAdd, Nat.reduceSub, Nat.reduceMul, Int.reduceAdd, Int.reduceSub, Int.reduceMul, Int.reduceNeg, fU]; subst hK) | refine zcA (hfs) rfl rfl rfl ?_ | refine zcA (haw) rfl rfl rfl ?_)
    exact ⟨_, rfl, rfl⟩
  | true =>
  rw [c1] at hfs
  cases c2 : fewB ws with
  | false =>
    rw [c2] at hfw
    refine pureC_of (rs := [(RV.tmp 6)]) Try.func22 (fun a w => Try.call22 a w) body22 cc22 (by kernel_rfl) ?_
    rw [Try.ntmps22]
    simp only [frs, Nat.reduceAdd, Nat.reduceSub]
    repeat (first | (with_reducible first | refine Way.imp ?_ | refine blk_o rfl ?_) | ((with_reducible refine WayR.imp (fun K hK => ?_)); simp (disch := first | omega | (simp only [dls]; omega)) only [std, reduceIte, reduceCtorEq, Int.reduceToNat, Nat.reduceAdd, Nat.reduceSub, Nat.reduceMul, Int.reduceAdd, Int.reduceSub, Int.reduceMul, Int.reduceNeg, fU]; subst hK) | refine zcA (hfs) rfl rfl rfl ?_ | (apply call_any_g (hfw) rfl; (case hg => simp (disch := first | omega | (simp only [dls]; omega)) only [std, reduceIte, reduceCtorEq, Int.reduceToNat, Nat.reduceAdd, Nat.reduceSub, Nat.reduceMul, Int.reduceAdd, Int.reduceSub, Int.reduceMul, Int.reduceNeg, fU]); (case hcl => (simp only [evs, St.ev, constAV, evl]; (repeat (first | exact closeAVs_nil | (apply closeAVs_cons; (first | (refine close_own3 rfl (by decide)) | (refine close_ownO rfl (by decide) ?_; assumption) | rfl)))); done)); (case hu => rfl)) | refine zcA (haw) rfl rfl rfl ?_)
    exact ⟨_, rfl, rfl⟩
  | true =>
  rw [c2] at hfw
  have fw := fewB_fits c2
  by_cases c3 : (osl t).length ≤ 4
  case neg =>
    refine pureC_of (rs := [(RV.tmp 6)]) Try.func22 (fun a w => Try.call22 a w) body22 cc22 (by kernel_rfl) ?_
    rw [Try.ntmps22]
    simp only [frs, Nat.reduceAdd, Nat.reduceSub]
    repeat (first | (with_reducible first | refine Way.imp ?_ | refine blk_o rfl ?_) | ((with_reducible refine WayR.imp (fun K hK => ?_)); simp (disch := first | omega | (simp only [dls]; omega)) only [std, reduceIte, reduceCtorEq, Int.reduceToNat, Nat.reduceAdd, Nat.reduceSub, Nat.reduceMul, Int.reduceAdd, Int.reduceSub, Int.reduceMul, Int.reduceNeg, fU]; subst hK) | refine zcA (hfs) rfl rfl rfl ?_ | (apply call_any_g (hfw) rfl; (case hg => simp (disch := first | omega | (simp only [dls]; omega)) only [std, reduceIte, reduceCtorEq, Int.reduceToNat, Nat.reduceAdd, Nat.reduceSub, Nat.reduceMul, Int.reduceAdd, Int.reduceSub, Int.reduceMul, Int.reduceNeg, fU]); (case hcl => (simp only [evs, St.ev, constAV, evl]; (repeat (first | exact closeAVs_nil | (apply closeAVs_cons; (first | (refine close_own3 rfl (by decide)) | (refine close_ownO rfl (by decide) ?_; assumption) | rfl)))); done)); (case hu => rfl)) | refine zcA (haw) rfl rfl rfl ?_)
    exact ⟨_, rfl, rfl⟩
  have hft := kfits_C s t ht1
  cases c4 : fitsT s t with
  | false =>
    rw [c4] at hft
    refine pureC_of (rs := [(RV.tmp 6)]) Try.func22 (fun a w => Try.call22 a w) body22 cc22 (by kernel_rfl) ?_
    rw [Try.ntmps22]
    simp only [frs, Nat.reduceAdd, Nat.reduceSub]
    repeat (first | (with_reducible first | refine Way.imp ?_ | refine blk_o rfl ?_) | ((with_reducible refine WayR.imp (fun K hK => ?_)); simp (disch := first | omega | (simp only [dls]; omega)) only [std, reduceIte, reduceCtorEq, Int.reduceToNat, Nat.reduceAdd, Nat.reduceSub, Nat.reduceMul, Int.reduceAdd, Int.reduceSub, Int.reduceMul, Int.reduceNeg, fU]; subst hK) | refine zcA (hfs) rfl rfl rfl ?_ | (apply call_any_g (hfw) rfl; (case hg => simp (disch := first | omega | (simp only [dls]; omega)) only [std, reduceIte, reduceCtorEq, Int.reduceToNat, Nat.reduceAdd, Nat.reduceSub, Nat.reduceMul, Int.reduceAdd, Int.reduceSub, Int.reduceMul, Int.reduceNeg, fU]); (case hcl => (simp only [evs, St.ev, constAV, evl]; (repeat (first | exact closeAVs_nil | (apply closeAVs_cons; (first | (refine close_own3 rfl (by decide)) | (refine close_ownO rfl (by decide) ?_; assumption) | rfl)))); done)); (case hu => rfl)) | (apply call_any_g (hft) rfl; (case hg => simp (disch := first | omega | (simp only [dls]; omega)) only [std, reduceIte, reduceCtorEq, Int.reduceToNat, Nat.reduceAdd, Nat.reduceSub, Nat.reduceMul, Int.reduceAdd, Int.reduceSub, Int.reduceMul, Int.reduceNeg, fU]); (case hcl => (simp only [evs, St.ev, constAV, evl]; (repeat (first | exact closeAVs_nil | (apply closeAVs_cons; (first | (refine close_own3 rfl (by decide)) | (refine close_ownO rfl (by decide) ?_; assumption) | rfl)))); done)); (case hu => rfl)) | refine zcA (haw) rfl rfl rfl ?_)
    exact ⟨_, rfl, rfl⟩
  | true =>
  rw [c4] at hft
  by_cases c5 : (osl ws).length = (osl s.items).length
  case neg =>
    have hw8 := fw.1
    have hr := fits_right c4
    have h60 := (rtS_of hr).len
    refine pureC_of (rs := [(RV.tmp 6)]) Try.func22 (fun a w => Try.call22 a w) body22 cc22 (by kernel_rfl) ?_
    rw [Try.ntmps22]
    simp only [frs, Nat.reduceAdd, Nat.reduceSub]
    repeat (first | (with_reducible first | refine Way.imp ?_ | refine blk_o rfl ?_) | ((with_reducible refine WayR.imp (fun K hK => ?_)); simp (disch := first | omega | (simp only [dls]; omega)) only [std, reduceIte, reduceCtorEq, Int.reduceToNat, Nat.reduceAdd, Nat.reduceSub, Nat.reduceMul, Int.reduceAdd, Int.reduceSub, Int.reduceMul, Int.reduceNeg, fU]; subst hK) | refine zcA (hfs) rfl rfl rfl ?_ | (apply call_any_g (hfw) rfl; (case hg => simp (disch := first | omega | (simp only [dls]; omega)) only [std, reduceIte, reduceCtorEq, Int.reduceToNat, Nat.reduceAdd, Nat.reduceSub, Nat.reduceMul, Int.reduceAdd, Int.reduceSub, Int.reduceMul, Int.reduceNeg, fU]); (case hcl => (simp only [evs, St.ev, constAV, evl]; (repeat (first | exact closeAVs_nil | (apply closeAVs_cons; (first | (refine close_own3 rfl (by decide)) | (refine close_ownO rfl (by decide) ?_; assumption) | rfl)))); done)); (case hu => rfl)) | (apply call_any_g (hft) rfl; (case hg => simp (disch := first | omega | (simp only [dls]; omega)) only [std, reduceIte, reduceCtorEq, Int.reduceToNat, Nat.reduceAdd, Nat.reduceSub, Nat.reduceMul, Int.reduceAdd, Int.reduceSub, Int.reduceMul, Int.reduceNeg, fU]); (case hcl => (simp only [evs, St.ev, constAV, evl]; (repeat (first | exact closeAVs_nil | (apply closeAVs_cons; (first | (refine close_own3 rfl (by decide)) | (refine close_ownO rfl (by decide) ?_; assumption) | rfl)))); done)); (case hu => rfl)) | refine zcA (haw) rfl rfl rfl ?_)
    exact ⟨_, rfl, rfl⟩
  by_cases c6 : s.roll ≤ 512
  case neg =>
    refine pureC_of (rs := [(RV.tmp 6)]) Try.func22 (fun a w => Try.call22 a w) body22 cc22 (by kernel_rfl) ?_
    rw [Try.ntmps22]
    simp only [frs, Nat.reduceAdd, Nat.reduceSub]
    repeat (first | (with_reducible first | refine Way.imp ?_ | refine blk_o rfl ?_) | ((with_reducible refine WayR.imp (fun K hK => ?_)); simp (disch := first | omega | (simp only [dls]; omega)) only [std, reduceIte, reduceCtorEq, Int.reduceToNat, Nat.reduceAdd, Nat.reduceSub, Nat.reduceMul, Int.reduceAdd, Int.reduceSub, Int.reduceMul, Int.reduceNeg, fU, c5]; subst hK) | refine zcA (hfs) rfl rfl rfl ?_ | (apply call_any_g (hfw) rfl; (case hg => simp (disch := first | omega | (simp only [dls]; omega)) only [std, reduceIte, reduceCtorEq, Int.reduceToNat, Nat.reduceAdd, Nat.reduceSub, Nat.reduceMul, Int.reduceAdd, Int.reduceSub, Int.reduceMul, Int.reduceNeg, fU, c5]); (case hcl => (simp only [evs, St.ev, constAV, evl]; (repeat (first | exact closeAVs_nil | (apply closeAVs_cons; (first | (refine close_own3 rfl (by decide)) | (refine close_ownO rfl (by decide) ?_; assumption) | rfl)))); done)); (case hu => rfl)) | (apply call_any_g (hft) rfl; (case hg => simp (disch := first | omega | (simp only [dls]; omega)) only [std, reduceIte, reduceCtorEq, Int.reduceToNat, Nat.reduceAdd, Nat.reduceSub, Nat.reduceMul, Int.reduceAdd, Int.reduceSub, Int.reduceMul, Int.reduceNeg, fU, c5]); (case hcl => (simp only [evs, St.ev, constAV, evl]; (repeat (first | exact closeAVs_nil | (apply closeAVs_cons; (first | (refine close_own3 rfl (by decide)) | (refine close_ownO rfl (by decide) ?_; assumption) | rfl)))); done)); (case hu => rfl)) | refine zcA (haw) rfl rfl rfl ?_)
    exact ⟨_, rfl, rfl⟩
  have hr := fits_right c4
  obtain ⟨hT, h4, h7⟩ := few_total hr c1
  have hb := kbest_C s ws 8 3 fw (by decide) (by decide) (by decide)
  rw [bestR_yes hr c5 c6 hT] at hb
  have hwo := worth_C ws t 8 3 fw (by decide) (by decide) (by decide) ht2
  have hle := fits_le c5 c4
  have f1 := fits_kv fw (by decide) rfl hr
  have f2 := fits_worth fw (by decide) ht2 (min (osl ws).length (osl t).length)
  have f1' := f1.mono (show totalS s * (3 + 1) + 1 ≤ 90000000 by omega)
  have hmm := fw.1
  have f2' : FitsQ (worthQ ws t) 90000000 := f2.mono (by omega)
  have hcm := rcompare_C (rawQ (kvS s ws)) (rawQ (worthQ ws t)) (fits_rawQ f1') (fits_rawQ f2')
  rw [rawQ_val, rawQ_val] at hcm
  have hge : 0 ≤ cmpQ (kvS s ws) (worthQ ws t) := Int.not_lt.1 (fun h => by
    have := (cmpQ_neg _ _).1 h
    exact absurd hle (Rat.not_le.2 this))
  clear f1 f2 f1' f2' hle
  generalize cmpQ (kvS s ws) (worthQ ws t) = z at *
  generalize rawQ (kvS s ws) = q1 at *
  generalize rawQ (worthQ ws t) = q2 at *
  generalize takesV s ws = tk at *
  refine pureC_of (rs := [(RV.tmp 6)]) Try.func22 (fun a w => Try.call22 a w) body22 cc22 (by kernel_rfl) ?_
  rw [Try.ntmps22]
  simp only [frs, Nat.reduceAdd, Nat.reduceSub]
  repeat (first | (with_reducible first | refine Way.imp ?_ | refine blk_o rfl ?_) | ((with_reducible refine WayR.imp (fun K hK => ?_)); simp (disch := first | omega | (simp only [dls]; omega)) only [std, reduceIte, reduceCtorEq, Int.reduceToNat, Nat.reduceAdd, Nat.reduceSub, Nat.reduceMul, Int.reduceAdd, Int.reduceSub, Int.reduceMul, Int.reduceNeg, fU, c5, fCh, fR, List.cons_append, List.nil_append, List.map_cons, List.map_nil]; subst hK) | refine zcA (hfs) rfl rfl rfl ?_ | (apply call_any_g (hfw) rfl; (case hg => simp (disch := first | omega | (simp only [dls]; omega)) only [std, reduceIte, reduceCtorEq, Int.reduceToNat, Nat.reduceAdd, Nat.reduceSub, Nat.reduceMul, Int.reduceAdd, Int.reduceSub, Int.reduceMul, Int.reduceNeg, fU, c5, fCh, fR, List.cons_append, List.nil_append, List.map_cons, List.map_nil]); (case hcl => (simp only [evs, St.ev, constAV, evl]; (repeat (first | exact closeAVs_nil | (apply closeAVs_cons; (first | (refine close_own3 rfl (by decide)) | (refine close_ownO rfl (by decide) ?_; assumption) | rfl)))); done)); (case hu => rfl)) | (apply call_any_g (hft) rfl; (case hg => simp (disch := first | omega | (simp only [dls]; omega)) only [std, reduceIte, reduceCtorEq, Int.reduceToNat, Nat.reduceAdd, Nat.reduceSub, Nat.reduceMul, Int.reduceAdd, Int.reduceSub, Int.reduceMul, Int.reduceNeg, fU, c5, fCh, fR, List.cons_append, List.nil_append, List.map_cons, List.map_nil]); (case hcl => (simp only [evs, St.ev, constAV, evl]; (repeat (first | exact closeAVs_nil | (apply closeAVs_cons; (first | (refine close_own3 rfl (by decide)) | (refine close_ownO rfl (by decide) ?_; assumption) | rfl)))); done)); (case hu => rfl)) | refine zcA (hb) rfl rfl rfl ?_ | (apply call_any_g (hwo) rfl; (case hg => simp (disch := first | omega | (simp only [dls]; omega)) only [std, reduceIte, reduceCtorEq, Int.reduceToNat, Nat.reduceAdd, Nat.reduceSub, Nat.reduceMul, Int.reduceAdd, Int.reduceSub, Int.reduceMul, Int.reduceNeg, fU, c5, fCh, fR, List.cons_append, List.nil_append, List.map_cons, List.map_nil]); (case hcl => (simp only [evs, St.ev, constAV, evl]; (repeat (first | exact closeAVs_nil | (apply closeAVs_cons; (first | (refine close_own3 rfl (by decide)) | (refine close_ownO rfl (by decide) ?_; assumption) | rfl)))); done)); (case hu => rfl)) | (apply call_any_g (hcm) rfl; (case hg => simp (disch := first | omega | (simp only [dls]; omega)) only [std, reduceIte, reduceCtorEq, Int.reduceToNat, Nat.reduceAdd, Nat.reduceSub, Nat.reduceMul, Int.reduceAdd, Int.reduceSub, Int.reduceMul, Int.reduceNeg, fU, c5, fCh, fR, List.cons_append, List.nil_append, List.map_cons, List.map_nil]); (case hcl => (simp only [evs, St.ev, constAV, evl]; (repeat (first | exact closeAVs_nil | (apply closeAVs_cons; (first | (refine close_own3 rfl (by decide)) | (refine close_ownO rfl (by decide) ?_; assumption) | rfl)))); done)); (case hu => rfl)) | (apply call_any_g (haw) rfl; (case hg => simp (disch := first | omega | (simp only [dls]; omega)) only [std, reduceIte, reduceCtorEq, Int.reduceToNat, Nat.reduceAdd, Nat.reduceSub, Nat.reduceMul, Int.reduceAdd, Int.reduceSub, Int.reduceMul, Int.reduceNeg, fU, c5, fCh, fR, List.cons_append, List.nil_append, List.map_cons, List.map_nil]); (case hcl => (simp only [evs, St.ev, constAV, evl]; (repeat (first | exact closeAVs_nil | (apply closeAVs_cons; (first | (refine close_own3 rfl (by decide)) | (refine close_ownO rfl (by decide) ?_; assumption) | rfl)))); done)); (case hu => rfl)))
  exact ⟨_, rfl, rfl⟩

end Go.Proofs.Ytdhkdnmefeeclaa
