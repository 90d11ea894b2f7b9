/- The law ShapeMix: the walk. -/
import Derived.Test.YtdhkdnmefeeclaaX4
set_option linter.unusedSimpArgs false
set_option linter.unusedVariables false
set_option linter.unnecessarySimpa false
set_option linter.unusedSimpArgs false
set_option linter.unusedVariables false
set_option maxRecDepth 100000
set_option maxHeartbeats 4000000
namespace Go.Proofs.Ytdhkdnmefeeclaa
open Go Go.Am Go.Proofs Go.RowKit Go.Off

abbrev c79 : CC := (.seq (.reg [⟨(some 4), none, (.new 40 [(.bool false), (.slice none 0 0), (.slice none 0 0)])⟩, ⟨(some 5), none, (.mv (.const (.int .i64 (0))))⟩]) (.seq (.reg [⟨(some 6), none, (.mv (.tmp 0))⟩, ⟨(some 7), none, (.callf (.func 59) [(.tmp 6)])⟩, ⟨(some 8), none, (.mv (.tmp 1))⟩, ⟨(some 9), none, (.callf (.func 59) [(.tmp 8)])⟩, ⟨(some 10), none, (.callf (.func 115) [(.tmp 7), (.tmp 9)])⟩, ⟨(some 11), none, (.ext (.tmp 10) 0)⟩, ⟨(some 12), none, (.ext (.tmp 10) 1)⟩, ⟨none, none, (.store 3 (.tmp 4) (.tmp 11))⟩, ⟨(some 5), none, (.mv (.tmp 12))⟩]) .ret))
theorem cc79 : ccode Try.prog [] (Try.f79.body.getD .skip) = some c79 := by kernel_rfl
theorem body79 : Try.f79.body = some (Try.f79.body.getD .skip) := rfl

theorem rof_C (n d : Int) (hn1 : -9223372036854775808 ≤ n) (hn2 : n ≤ 9223372036854775807) (hd1 : -9223372036854775808 ≤ d) (hd2 : d ≤ 9223372036854775807) (h0 : d ≠ 0) : PureC Try.prog 79 [aI n, aI d] (.ret (.tup [aR (rawQ ((n : Rat) / (d : Rat))), aI 0])) := by
  have h1 := rint_C n hn1 hn2
  have h2 := rint_C d hd1 hd2
  have h3 := rdiv_C (rawQ (n : Rat)) (rawQ (d : Rat)) (fits_rawQ ((fits_int n hn1 hn2).mono (by decide))) (fits_rawQ ((fits_int d hd1 hd2).mono (by decide))) (by rw [rawQ_val]; exact_mod_cast h0)
  rw [rawQ_val, rawQ_val] at h3
  generalize rawQ ((n : Rat) / (d : Rat)) = q at *
  generalize rawQ (n : Rat) = a at *
  generalize rawQ (d : Rat) = b at *
  refine pureC_of (rs := [(RV.cell 4 3 true), (RV.tmp 5)]) Try.func79 (fun a w => Try.call79 a w) body79 cc79 (by kernel_rfl) ?_
  rw [Try.ntmps79]
  simp only [frs, Nat.reduceAdd, Nat.reduceSub]
  repeat (first | (with_reducible first | refine Way.imp ?_ | refine blk_o rfl ?_) | ((with_reducible refine WayR.imp (fun K hK => ?_)); simp (disch := first | omega | (simp only [dls]; omega)) only [std, reduceIte, reduceCtorEq, Int.reduceToNat, Nat.reduceAdd, Nat.reduceSub, Nat.reduceMul, Int.reduceAdd, Int.reduceSub, Int.reduceMul, Int.reduceNeg, fU]; subst hK) | refine zcA (h1) rfl rfl rfl ?_ | refine zcA (h2) rfl rfl rfl ?_ | refine zcA (h3) rfl rfl rfl ?_)
  exact ⟨_, rfl, rfl⟩

theorem qAt_add2 (a b : VV) (i : Nat) : qAt (rowO ((addQ a b).map rawQ)) i = qAt a i + qAt b i := by
  rw [qAt_rw]
  unfold addQ
  rw [List.getD_eq_getElem?_getD, List.getElem?_map]
  by_cases h : i < max (osl a).length (osl b).length
  · rw [List.getElem?_range h]; rfl
  · rw [List.getElem?_eq_none (by rw [List.length_range]; omega)]
    have ha : qAt a i = 0 := by unfold qAt; rw [rAt_out (by omega)]; exact zR_val
    have hb : qAt b i = 0 := by unfold qAt; rw [rAt_out (by omega)]; exact zR_val
    rw [ha, hb]
    exact (Rat.add_zero 0).symm
theorem qAt_scale2 (a : VV) (q : Rat) (i : Nat) : qAt (rowO ((scaleQ a q).map rawQ)) i = qAt a i * q := by
  rw [qAt_rw]
  unfold scaleQ
  rw [List.getD_eq_getElem?_getD, List.getElem?_map]
  cases h : (osl a)[i]? with
  | none =>
    have ha : qAt a i = 0 := by unfold qAt; rw [rAt_out (List.getElem?_eq_none_iff.1 h)]; exact zR_val
    rw [ha, Rat.zero_mul]; rfl
  | some r =>
    have ha : qAt a i = r.val := by unfold qAt rAt; rw [List.getD_eq_getElem?_getD, h]; rfl
    rw [ha]; rfl
theorem pAt_below (x : VV) (i : Nat) : pAt belowB x i = decide (qAt x i < 0) := rfl
theorem mix_does {p : PB} {x y z : VV} (hx : doesB p x = true) (hy : doesB p y = true) (hl : (osl z).length = (osl p.C).length) (hz : ∀ i, qAt z i = (qAt x i + qAt y i) * (1 / 2)) : doesB p z = true := by
  unfold doesB at *
  simp only [Bool.and_eq_true, decide_eq_true_eq] at hx hy ⊢
  obtain ⟨x1, x2, x3, x4⟩ := hx
  obtain ⟨_, y2, y3, y4⟩ := hy
  refine ⟨x1, hl, ?_, ?_⟩
  · have hx3 : anyI (pAt belowB x) (osl x).length = false := by simpa using x3
    have hy3 : anyI (pAt belowB y) (osl y).length = false := by simpa using y3
    have : anyI (pAt belowB z) (osl z).length = false := anyI_of (fun i hi => by
      have h1 := anyI_false hx3 (i := i) (by omega)
      have h2 := anyI_false hy3 (i := i) (by omega)
      rw [pAt_below, decide_eq_false_iff_not, Rat.not_lt] at h1 h2 ⊢
      rw [hz]
      grind)
    rw [this]; rfl
  · unfold doesTo at *
    rw [List.all_eq_true] at *
    intro i hi
    have h1 := x4 i hi
    have h2 := y4 i hi
    rw [decide_eq_true_eq] at h1 h2 ⊢
    rw [dot_sum] at h1 h2 ⊢
    unfold vmin at *
    rw [x2] at h1
    rw [y2] at h2
    rw [hl]
    have e : sumR (min (osl (mAt p.A i)).length (osl p.C).length) (fun k => qAt (mAt p.A i) k * qAt z k) = sumR (min (osl (mAt p.A i)).length (osl p.C).length) (fun k => (qAt (mAt p.A i) k * qAt x k + qAt (mAt p.A i) k * qAt y k) * (1 / 2)) := sumR_congr (fun k _ => by rw [hz]; grind)
    rw [e, sumR_mul, sumR_add, h1, h2]
    grind

abbrev c18 : CC := (.seq (.reg [⟨(some 3), none, (.box 86 (.tmp 0))⟩, ⟨(some 6), none, (.mv (.const (.bool false)))⟩]) (.seq (.seq (.reg [⟨(some 10), none, (.load 3 true (.tmp 3))⟩, ⟨(some 11), none, (.callf (.func 66) [(.tmp 10)])⟩, ⟨(some 12), none, (.un .not (.tmp 11))⟩, ⟨(some 13), none, (.mv (.tmp 12))⟩, ⟨(some 14), (some (13, false)), (.mv (.tmp 1))⟩, ⟨(some 15), (some (13, false)), (.callf (.func 26) [(.tmp 14)])⟩, ⟨(some 16), (some (13, false)), (.un .not (.tmp 15))⟩, ⟨(some 17), none, (.pick (.tmp 13) (.const (.bool true)) (.tmp 16))⟩, ⟨(some 18), none, (.mv (.tmp 17))⟩, ⟨(some 19), (some (18, false)), (.mv (.tmp 2))⟩, ⟨(some 20), (some (18, false)), (.callf (.func 26) [(.tmp 19)])⟩, ⟨(some 21), (some (18, false)), (.un .not (.tmp 20))⟩, ⟨(some 22), none, (.pick (.tmp 18) (.const (.bool true)) (.tmp 21))⟩, ⟨(some 23), none, (.mv (.tmp 22))⟩, ⟨(some 24), (some (23, false)), (.load 3 true (.tmp 3))⟩, ⟨(some 25), (some (23, false)), (.mv (.tmp 1))⟩, ⟨(some 26), (some (23, false)), (.callf (.func 69) [(.tmp 24), (.tmp 25)])⟩, ⟨(some 27), (some (23, false)), (.un .not (.tmp 26))⟩, ⟨(some 28), none, (.pick (.tmp 23) (.const (.bool true)) (.tmp 27))⟩, ⟨(some 29), none, (.mv (.tmp 28))⟩, ⟨(some 30), (some (29, false)), (.load 3 true (.tmp 3))⟩, ⟨(some 31), (some (29, false)), (.mv (.tmp 2))⟩, ⟨(some 32), (some (29, false)), (.callf (.func 69) [(.tmp 30), (.tmp 31)])⟩, ⟨(some 33), (some (29, false)), (.un .not (.tmp 32))⟩, ⟨(some 34), none, (.pick (.tmp 29) (.const (.bool true)) (.tmp 33))⟩]) (.cond (.tmp 34) (.seq (.reg [⟨(some 35), none, (.callf (.func 67) [])⟩, ⟨(some 6), none, (.mv (.tmp 35))⟩]) .ret) .skip)) (.seq (.reg [⟨(some 37), none, (.callf (.func 79) [(.const (.int .i64 (1))), (.const (.int .i64 (2)))])⟩, ⟨(some 36), none, (.mv (.tmp 37))⟩, ⟨(some 38), none, (.ext (.tmp 36) 0)⟩, ⟨(some 39), none, (.ext (.tmp 36) 1)⟩, ⟨(some 7), none, (.new 40 [(.bool false), (.slice none 0 0), (.slice none 0 0)])⟩, ⟨none, none, (.store 3 (.tmp 7) (.tmp 38))⟩, ⟨(some 8), none, (.mv (.tmp 39))⟩]) (.seq (.reg [⟨(some 40), none, (.mv (.tmp 1))⟩, ⟨(some 41), none, (.mv (.tmp 2))⟩, ⟨(some 42), none, (.callf (.func 43) [(.tmp 40), (.tmp 41)])⟩, ⟨(some 43), none, (.load 3 true (.tmp 7))⟩, ⟨(some 44), none, (.callf (.func 45) [(.tmp 42), (.tmp 43)])⟩, ⟨(some 9), none, (.mv (.tmp 44))⟩]) (.seq (.reg [⟨(some 45), none, (.load 3 true (.tmp 3))⟩, ⟨(some 46), none, (.mv (.tmp 9))⟩, ⟨(some 47), none, (.callf (.func 69) [(.tmp 45), (.tmp 46)])⟩, ⟨(some 48), none, (.mv (.tmp 47))⟩, ⟨(some 49), (some (48, true)), (.callf (.func 67) [])⟩, ⟨(some 50), none, (.pick (.tmp 48) (.tmp 49) (.const (.bool false)))⟩, ⟨(some 6), none, (.mv (.tmp 50))⟩]) .ret)))))
theorem cc18 : ccode Try.prog [] (Try.f18.body.getD .skip) = some c18 := by kernel_rfl
theorem body18 : Try.f18.body = some (Try.f18.body.getD .skip) := rfl

theorem shapeMix_C (p : PB) (x y : VV) : PureC Try.prog 18 [aP p, aV x, aV y] (.ret (aB true)) := by
  have hf := fewP_C p
  have hfx := few_C x
  have hfy := few_C y
  have haw := awake11_C
  cases c1 : fewP p with
  | false =>
    rw [c1] at hf
    refine pureC_of (rs := [(RV.tmp 6)]) Try.func18 (fun a w => Try.call18 a w) body18 cc18 (by kernel_rfl) ?_
    rw [Try.ntmps18]
    simp only [frs, Nat.reduceAdd, Nat.reduceSub]
    repeat (first | (with_reducible first | refine Way.imp ?_ | refine blk_o rfl ?_) | ((with_reducible refine WayR.imp (fun K hK => ?_)); simp (disch := first | omega | (simp only [dls]; omega)) only [std, reduceIte, reduceCtorEq, Int.reduceToNat, Nat.reduceAdd, Nat.reduceSub, Nat.reduceMul, Int.reduceAdd, Int.reduceSub, Int.reduceMul, Int.reduceNeg, fU]; subst hK) | refine zcA (hf) rfl rfl rfl ?_ | refine zcA (haw) rfl rfl rfl ?_)
    exact ⟨_, rfl, rfl⟩
  | true =>
  rw [c1] at hf
  cases c2 : fewB x with
  | false =>
    rw [c2] at hfx
    refine pureC_of (rs := [(RV.tmp 6)]) Try.func18 (fun a w => Try.call18 a w) body18 cc18 (by kernel_rfl) ?_
    rw [Try.ntmps18]
    simp only [frs, Nat.reduceAdd, Nat.reduceSub]
    repeat (first | (with_reducible first | refine Way.imp ?_ | refine blk_o rfl ?_) | ((with_reducible refine WayR.imp (fun K hK => ?_)); simp (disch := first | omega | (simp only [dls]; omega)) only [std, reduceIte, reduceCtorEq, Int.reduceToNat, Nat.reduceAdd, Nat.reduceSub, Nat.reduceMul, Int.reduceAdd, Int.reduceSub, Int.reduceMul, Int.reduceNeg, fU]; subst hK) | refine zcA (hf) rfl rfl rfl ?_ | (apply call_any_g (hfx) rfl; (case hg => simp (disch := first | omega | (simp only [dls]; omega)) only [std, reduceIte, reduceCtorEq, Int.reduceToNat, Nat.reduceAdd, Nat.reduceSub, Nat.reduceMul, Int.reduceAdd, Int.reduceSub, Int.reduceMul, Int.reduceNeg, fU]); (case hcl => (simp only [evs, St.ev, constAV, evl]; (repeat (first | exact closeAVs_nil | (apply closeAVs_cons; (first | (refine close_own3 rfl (by decide)) | (refine close_ownO rfl (by decide) ?_; assumption) | rfl)))); done)); (case hu => rfl)) | refine zcA (haw) rfl rfl rfl ?_)
    exact ⟨_, rfl, rfl⟩
  | true =>
  rw [c2] at hfx
  cases c3 : fewB y with
  | false =>
    rw [c3] at hfy
    refine pureC_of (rs := [(RV.tmp 6)]) Try.func18 (fun a w => Try.call18 a w) body18 cc18 (by kernel_rfl) ?_
    rw [Try.ntmps18]
    simp only [frs, Nat.reduceAdd, Nat.reduceSub]
    repeat (first | (with_reducible first | refine Way.imp ?_ | refine blk_o rfl ?_) | ((with_reducible refine WayR.imp (fun K hK => ?_)); simp (disch := first | omega | (simp only [dls]; omega)) only [std, reduceIte, reduceCtorEq, Int.reduceToNat, Nat.reduceAdd, Nat.reduceSub, Nat.reduceMul, Int.reduceAdd, Int.reduceSub, Int.reduceMul, Int.reduceNeg, fU]; subst hK) | refine zcA (hf) rfl rfl rfl ?_ | (apply call_any_g (hfx) rfl; (case hg => simp (disch := first | omega | (simp only [dls]; omega)) only [std, reduceIte, reduceCtorEq, Int.reduceToNat, Nat.reduceAdd, Nat.reduceSub, Nat.reduceMul, Int.reduceAdd, Int.reduceSub, Int.reduceMul, Int.reduceNeg, fU]); (case hcl => (simp only [evs, St.ev, constAV, evl]; (repeat (first | exact closeAVs_nil | (apply closeAVs_cons; (first | (refine close_own3 rfl (by decide)) | (refine close_ownO rfl (by decide) ?_; assumption) | rfl)))); done)); (case hu => rfl)) | (apply call_any_g (hfy) rfl; (case hg => simp (disch := first | omega | (simp only [dls]; omega)) only [std, reduceIte, reduceCtorEq, Int.reduceToNat, Nat.reduceAdd, Nat.reduceSub, Nat.reduceMul, Int.reduceAdd, Int.reduceSub, Int.reduceMul, Int.reduceNeg, fU]); (case hcl => (simp only [evs, St.ev, constAV, evl]; (repeat (first | exact closeAVs_nil | (apply closeAVs_cons; (first | (refine close_own3 rfl (by decide)) | (refine close_ownO rfl (by decide) ?_; assumption) | rfl)))); done)); (case hu => rfl)) | refine zcA (haw) rfl rfl rfl ?_)
    exact ⟨_, rfl, rfl⟩
  | true =>
  rw [c3] at hfy
  obtain ⟨fp, h4⟩ := fewP_fits c1
  have fx := fewB_fits c2
  have fy := fewB_fits c3
  have hdx := does_C p x 8 3 fp fx (by decide) (by decide) (by decide)
  have hdy := does_C p y 8 3 fp fy (by decide) (by decide) (by decide)
  cases c4 : doesB p x with
  | false =>
    rw [c4] at hdx
    refine pureC_of (rs := [(RV.tmp 6)]) Try.func18 (fun a w => Try.call18 a w) body18 cc18 (by kernel_rfl) ?_
    rw [Try.ntmps18]
    simp only [frs, Nat.reduceAdd, Nat.reduceSub]
    repeat (first | (with_reducible first | refine Way.imp ?_ | refine blk_o rfl ?_) | ((with_reducible refine WayR.imp (fun K hK => ?_)); simp (disch := first | omega | (simp only [dls]; omega)) only [std, reduceIte, reduceCtorEq, Int.reduceToNat, Nat.reduceAdd, Nat.reduceSub, Nat.reduceMul, Int.reduceAdd, Int.reduceSub, Int.reduceMul, Int.reduceNeg, fU]; subst hK) | refine zcA (hf) rfl rfl rfl ?_ | (apply call_any_g (hfx) rfl; (case hg => simp (disch := first | omega | (simp only [dls]; omega)) only [std, reduceIte, reduceCtorEq, Int.reduceToNat, Nat.reduceAdd, Nat.reduceSub, Nat.reduceMul, Int.reduceAdd, Int.reduceSub, Int.reduceMul, Int.reduceNeg, fU]); (case hcl => (simp only [evs, St.ev, constAV, evl]; (repeat (first | exact closeAVs_nil | (apply closeAVs_cons; (first | (refine close_own3 rfl (by decide)) | (refine close_ownO rfl (by decide) ?_; assumption) | rfl)))); done)); (case hu => rfl)) | (apply call_any_g (hfy) rfl; (case hg => simp (disch := first | omega | (simp only [dls]; omega)) only [std, reduceIte, reduceCtorEq, Int.reduceToNat, Nat.reduceAdd, Nat.reduceSub, Nat.reduceMul, Int.reduceAdd, Int.reduceSub, Int.reduceMul, Int.reduceNeg, fU]); (case hcl => (simp only [evs, St.ev, constAV, evl]; (repeat (first | exact closeAVs_nil | (apply closeAVs_cons; (first | (refine close_own3 rfl (by decide)) | (refine close_ownO rfl (by decide) ?_; assumption) | rfl)))); done)); (case hu => rfl)) | (apply call_any_g (hdx) rfl; (case hg => simp (disch := first | omega | (simp only [dls]; omega)) only [std, reduceIte, reduceCtorEq, Int.reduceToNat, Nat.reduceAdd, Nat.reduceSub, Nat.reduceMul, Int.reduceAdd, Int.reduceSub, Int.reduceMul, Int.reduceNeg, fU]); (case hcl => (simp only [evs, St.ev, constAV, evl]; (repeat (first | exact closeAVs_nil | (apply closeAVs_cons; (first | (refine close_own3 rfl (by decide)) | (refine close_ownO rfl (by decide) ?_; assumption) | rfl)))); done)); (case hu => rfl)) | refine zcA (haw) rfl rfl rfl ?_)
    exact ⟨_, rfl, rfl⟩
  | true =>
  rw [c4] at hdx
  cases c5 : doesB p y with
  | false =>
    rw [c5] at hdy
    refine pureC_of (rs := [(RV.tmp 6)]) Try.func18 (fun a w => Try.call18 a w) body18 cc18 (by kernel_rfl) ?_
    rw [Try.ntmps18]
    simp only [frs, Nat.reduceAdd, Nat.reduceSub]
    repeat (first | (with_reducible first | refine Way.imp ?_ | refine blk_o rfl ?_) | ((with_reducible refine WayR.imp (fun K hK => ?_)); simp (disch := first | omega | (simp only [dls]; omega)) only [std, reduceIte, reduceCtorEq, Int.reduceToNat, Nat.reduceAdd, Nat.reduceSub, Nat.reduceMul, Int.reduceAdd, Int.reduceSub, Int.reduceMul, Int.reduceNeg, fU]; subst hK) | refine zcA (hf) rfl rfl rfl ?_ | (apply call_any_g (hfx) rfl; (case hg => simp (disch := first | omega | (simp only [dls]; omega)) only [std, reduceIte, reduceCtorEq, Int.reduceToNat, Nat.reduceAdd, Nat.reduceSub, Nat.reduceMul, Int.reduceAdd, Int.reduceSub, Int.reduceMul, Int.reduceNeg, fU]); (case hcl => (simp only [evs, St.ev, constAV, evl]; (repeat (first | exact closeAVs_nil | (apply closeAVs_cons; (first | (refine close_own3 rfl (by decide)) | (refine close_ownO rfl (by decide) ?_; assumption) | rfl)))); done)); (case hu => rfl)) | (apply call_any_g (hfy) rfl; (case hg => simp (disch := first | omega | (simp only [dls]; omega)) only [std, reduceIte, reduceCtorEq, Int.reduceToNat, Nat.reduceAdd, Nat.reduceSub, Nat.reduceMul, Int.reduceAdd, Int.reduceSub, Int.reduceMul, Int.reduceNeg, fU]); (case hcl => (simp only [evs, St.ev, constAV, evl]; (repeat (first | exact closeAVs_nil | (apply closeAVs_cons; (first | (refine close_own3 rfl (by decide)) | (refine close_ownO rfl (by decide) ?_; assumption) | rfl)))); done)); (case hu => rfl)) | (apply call_any_g (hdx) rfl; (case hg => simp (disch := first | omega | (simp only [dls]; omega)) only [std, reduceIte, reduceCtorEq, Int.reduceToNat, Nat.reduceAdd, Nat.reduceSub, Nat.reduceMul, Int.reduceAdd, Int.reduceSub, Int.reduceMul, Int.reduceNeg, fU]); (case hcl => (simp only [evs, St.ev, constAV, evl]; (repeat (first | exact closeAVs_nil | (apply closeAVs_cons; (first | (refine close_own3 rfl (by decide)) | (refine close_ownO rfl (by decide) ?_; assumption) | rfl)))); done)); (case hu => rfl)) | (apply call_any_g (hdy) rfl; (case hg => simp (disch := first | omega | (simp only [dls]; omega)) only [std, reduceIte, reduceCtorEq, Int.reduceToNat, Nat.reduceAdd, Nat.reduceSub, Nat.reduceMul, Int.reduceAdd, Int.reduceSub, Int.reduceMul, Int.reduceNeg, fU]); (case hcl => (simp only [evs, St.ev, constAV, evl]; (repeat (first | exact closeAVs_nil | (apply closeAVs_cons; (first | (refine close_own3 rfl (by decide)) | (refine close_ownO rfl (by decide) ?_; assumption) | rfl)))); done)); (case hu => rfl)) | refine zcA (haw) rfl rfl rfl ?_)
    exact ⟨_, rfl, rfl⟩
  | true =>
  rw [c5] at hdy
  have hof := rof_C 1 2 (by decide) (by decide) (by decide) (by decide) (by decide)
  have hcast : ((1 : Int) : Rat) / ((2 : Int) : Rat) = 1 / 2 := rfl
  rw [hcast] at hof
  have hadd := vadd_R x y 8 3 fx fy (by decide) (by decide) (by decide)
  have hl : ∀ v : VV, doesB p v = true → (osl v).length = (osl p.C).length := fun v hv => by
    unfold doesB at hv
    simp only [Bool.and_eq_true, decide_eq_true_eq] at hv
    exact hv.2.1
  have lx := hl x c4
  have ly := hl y c5
  have lC := fp.2.2.1
  have las : (addQ x y).length = (osl p.C).length := by unfold addQ; rw [List.length_map, List.length_range, lx, ly, Nat.max_self]
  have fs : FitsV (rowO ((addQ x y).map rawQ)) 8 7 := fits_rw (by omega) (fun q hq => by
    unfold addQ at hq
    obtain ⟨i, _, rfl⟩ := List.mem_map.1 hq
    exact ((fx.at i).val (by decide)).add1 ((fy.at i).val (by decide)))
  have fh : FitsQ (1 / 2) 2 := by
    have := (fits_int 2 (by decide) (by decide)).inv (by decide) (by decide)
    exact this
  have hsc := vscale_R (rowO ((addQ x y).map rawQ)) (rawQ (1 / 2)) 8 7 fs (fits_rawQ (fh.mono (by decide))) (by decide) (by decide) (by decide)
  rw [rawQ_val] at hsc
  have fz : FitsV (rowO ((scaleQ (rowO ((addQ x y).map rawQ)) (1 / 2)).map rawQ)) 8 9 := fits_rw (by unfold scaleQ; rw [List.length_map, len_rw]; omega) (fun q hq => by
    unfold scaleQ at hq
    obtain ⟨r, hr, rfl⟩ := List.mem_map.1 hq
    exact ((fs.2 r hr).val (by decide)).mul fh)
  have hdz := does_C p _ 8 9 ⟨⟨fp.1.1, fun v hv => (fp.1.2 v hv).monoL (by decide)⟩, fp.2.1.monoL (by decide), fp.2.2.monoL (by decide)⟩ fz (by decide) (by decide) (by decide)
  rw [mix_does c4 c5 (by rw [len_rw]; unfold scaleQ; rw [List.length_map, len_rw, las]) (fun i => by rw [qAt_scale2, qAt_add2])] at hdz
  generalize rowO ((scaleQ (rowO ((addQ x y).map rawQ)) (1 / 2)).map rawQ) = z at *
  generalize rowO ((addQ x y).map rawQ) = s at *
  generalize rawQ (1 / 2) = q at *
  refine pureC_of (rs := [(RV.tmp 6)]) Try.func18 (fun a w => Try.call18 a w) body18 cc18 (by kernel_rfl) ?_
  rw [Try.ntmps18]
  simp only [frs, Nat.reduceAdd, Nat.reduceSub]
  repeat (first | (with_reducible first | refine Way.imp ?_ | refine blk_o rfl ?_) | ((with_reducible refine WayR.imp (fun K hK => ?_)); simp (disch := first | omega | (simp only [dls]; omega)) only [std, reduceIte, reduceCtorEq, Int.reduceToNat, Nat.reduceAdd, Nat.reduceSub, Nat.reduceMul, Int.reduceAdd, Int.reduceSub, Int.reduceMul, Int.reduceNeg, fU]; subst hK) | refine zcA (hf) rfl rfl rfl ?_ | (apply call_any_g (hfx) rfl; (case hg => simp (disch := first | omega | (simp only [dls]; omega)) only [std, reduceIte, reduceCtorEq, Int.reduceToNat, Nat.reduceAdd, Nat.reduceSub, Nat.reduceMul, Int.reduceAdd, Int.reduceSub, Int.reduceMul, Int.reduceNeg, fU]); (case hcl => (simp only [evs, St.ev, constAV, evl]; (repeat (first | exact closeAVs_nil | (apply closeAVs_cons; (first | (refine close_own3 rfl (by decide)) | (refine close_ownO rfl (by decide) ?_; assumption) | rfl)))); done)); (case hu => rfl)) | (apply call_any_g (hfy) rfl; (case hg => simp (disch := first | omega | (simp only [dls]; omega)) only [std, reduceIte, reduceCtorEq, Int.reduceToNat, Nat.reduceAdd, Nat.reduceSub, Nat.reduceMul, Int.reduceAdd, Int.reduceSub, Int.reduceMul, Int.reduceNeg, fU]); (case hcl => (simp only [evs, St.ev, constAV, evl]; (repeat (first | exact closeAVs_nil | (apply closeAVs_cons; (first | (refine close_own3 rfl (by decide)) | (refine close_ownO rfl (by decide) ?_; assumption) | rfl)))); done)); (case hu => rfl)) | (apply call_any_g (hdx) rfl; (case hg => simp (disch := first | omega | (simp only [dls]; omega)) only [std, reduceIte, reduceCtorEq, Int.reduceToNat, Nat.reduceAdd, Nat.reduceSub, Nat.reduceMul, Int.reduceAdd, Int.reduceSub, Int.reduceMul, Int.reduceNeg, fU]); (case hcl => (simp only [evs, St.ev, constAV, evl]; (repeat (first | exact closeAVs_nil | (apply closeAVs_cons; (first | (refine close_own3 rfl (by decide)) | (refine close_ownO rfl (by decide) ?_; assumption) | rfl)))); done)); (case hu => rfl)) | (apply call_any_g (hdy) rfl; (case hg => simp (disch := first | omega | (simp only [dls]; omega)) only [std, reduceIte, reduceCtorEq, Int.reduceToNat, Nat.reduceAdd, Nat.reduceSub, Nat.reduceMul, Int.reduceAdd, Int.reduceSub, Int.reduceMul, Int.reduceNeg, fU]); (case hcl => (simp only [evs, St.ev, constAV, evl]; (repeat (first | exact closeAVs_nil | (apply closeAVs_cons; (first | (refine close_own3 rfl (by decide)) | (refine close_ownO rfl (by decide) ?_; assumption) | rfl)))); done)); (case hu => rfl)) | refine zcA (hof) rfl rfl rfl ?_ | refine zcA (hadd) rfl rfl rfl ?_ | refine zcA (hsc) rfl rfl rfl ?_ | refine zcA (hdz) rfl rfl rfl ?_ | (apply call_any_g (haw) rfl; (case hg => simp (disch := first | omega | (simp only [dls]; omega)) only [std, reduceIte, reduceCtorEq, Int.reduceToNat, Nat.reduceAdd, Nat.reduceSub, Nat.reduceMul, Int.reduceAdd, Int.reduceSub, Int.reduceMul, Int.reduceNeg, fU]); (case hcl => (simp only [evs, St.ev, constAV, evl]; (repeat (first | exact closeAVs_nil | (apply closeAVs_cons; (first | (refine close_own3 rfl (by decide)) | (refine close_ownO rfl (by decide) ?_; assumption) | rfl)))); done)); (case hu => rfl)))
  exact ⟨_, rfl, rfl⟩

end Go.Proofs.Ytdhkdnmefeeclaa
