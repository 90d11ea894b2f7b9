/- The law PairsSums. -/
import Derived.Test.YtdhkdnmefeeclaaDoorBQ
import Derived.Test.YtdhkdnmefeeclaaDoorKEN
set_option linter.unusedSimpArgs false
set_option linter.unusedVariables false
set_option linter.unnecessarySimpa false
set_option linter.unusedSimpArgs false
set_option linter.unusedVariables false
set_option maxRecDepth 100000
set_option maxHeartbeats 4000000
namespace Go.Proofs.YtdhkdnmefeeclaaDoor
open Go Go.Am Go.Proofs Go.RowKit Go.Off

theorem togQ_comm (l : PL) (a b : Int) : togQ l a b = togQ l b a := by
  unfold togQ
  rw [Bool.and_comm, togTo_sum, togTo_sum, togS_comm]
theorem togQ_nn {l : PL} (hv : ∀ i, i < (osl l).length → 0 ≤ vAt l i) (a b : Int) : 0 ≤ togQ l a b := by
  unfold togQ
  split
  · rw [togTo_sum]; exact sumR_nn (togS_nn hv _ _)
  · exact Rat.le_refl
theorem togQ_le {l : PL} (hv : ∀ i, i < (osl l).length → 0 ≤ vAt l i) (a b : Int) : togQ l a b ≤ togQ l a a := by
  cases ha : itemK a with
  | false => unfold togQ; rw [ha]; exact Rat.le_refl
  | true =>
    cases hb : itemK b with
    | false =>
      have : togQ l a b = 0 := by unfold togQ; rw [hb, Bool.and_false]; rfl
      rw [this]; exact togQ_nn hv a a
    | true =>
      unfold togQ
      rw [ha, hb, togTo_sum, togTo_sum]
      exact togS_le hv _ _
theorem cmpQ_same (q : Rat) : cmpQ q q = 0 := (cmpQ_eq q q).2 rfl
theorem cmpQ_low {a b : Rat} (h : a ≤ b) : ¬ 0 < cmpQ a b := fun e => absurd ((cmpQ_pos a b).1 e) (Rat.not_lt.2 h)
def wsum (l : PL) (i : Nat) : Rat := sumR i (fun i => vAt l i * (((itemsL (sAt l i)).length : Nat) : Rat))
theorem fits_wsum {l : PL} {N L : Nat} (h : DomP l N L) (hL : 1 ≤ L) : ∀ i, i ≤ (osl l).length → FitsQ (wsum l i) (i * (L + 3) + 1)
  | 0, _ => fitsQ_zero _ (by omega)
  | i + 1, hi => by
    obtain ⟨_, _, h3, h4⟩ := h.at (i := i) (by omega)
    have ih := fits_wsum h hL i (by omega)
    have hc : FitsQ (((itemsL (sAt l i)).length : Nat) : Rat) 2 := by
      have := List.length_filter_le (bitN (sAt l i)) (List.range 12)
      rw [List.length_range] at this
      have e : (itemsL (sAt l i)).length ≤ 12 := this
      rw [← Rat.intCast_natCast]
      exact fits_int _ (by omega) (by omega)
    show FitsQ (wsum l i + vAt l i * _) _
    rw [← h4]
    exact (ih.add1 ((h3.val hL).mul hc)).mono (by rw [Nat.add_mul i 1]; omega)

end Go.Proofs.YtdhkdnmefeeclaaDoor
set_option linter.unusedSimpArgs false
set_option linter.unusedVariables false
set_option maxRecDepth 100000
set_option maxHeartbeats 4000000
namespace Go.Proofs.YtdhkdnmefeeclaaDoor
open Go Go.Am Go.Proofs Go.RowKit Go.Off

abbrev c6_k1 : CC := (.seq (.reg [⟨(some 85), none, (.load 3 true (.tmp 10))⟩, ⟨(some 86), none, (.mv (.tmp 3))⟩, ⟨(some 87), none, (.callf (.func 26) [(.tmp 86)])⟩, ⟨(some 88), none, (.callf (.func 25) [(.tmp 85), (.tmp 87)])⟩, ⟨(some 89), none, (.bin .eql (.tmp 88) (.const (.int .i64 (0))))⟩, ⟨(some 90), none, (.mv (.tmp 89))⟩, ⟨(some 91), (some (90, true)), (.callf (.func 15) [])⟩, ⟨(some 92), none, (.pick (.tmp 90) (.tmp 91) (.const (.bool false)))⟩, ⟨(some 8), none, (.mv (.tmp 92))⟩]) .ret)
abbrev c6_k2 : CC := (.reg [⟨(some 84), none, (.bin .add (.tmp 63) (.const (.int .i64 (1))))⟩, ⟨(some 63), none, (.mv (.tmp 84))⟩])
abbrev c6_k3 : CC := (.reg [⟨(some 77), none, (.load 3 true (.tmp 10))⟩, ⟨(some 78), none, (.faddr 1 (.tmp 12))⟩, ⟨(some 79), none, (.load 3 true (.tmp 78))⟩, ⟨(some 80), none, (.mv (.tmp 13))⟩, ⟨(some 81), none, (.callf (.func 26) [(.tmp 80)])⟩, ⟨(some 82), none, (.callf (.func 28) [(.tmp 79), (.tmp 81)])⟩, ⟨(some 83), none, (.callf (.func 27) [(.tmp 77), (.tmp 82)])⟩, ⟨none, none, (.store 3 (.tmp 10) (.tmp 83))⟩])
abbrev c6_b1 : CC := (.seq (.seq (.reg [⟨(some 69), none, (.mv (.tmp 14))⟩, ⟨(some 70), none, (.bin .gtr (.tmp 69) (.const (.int .i64 (0))))⟩]) (.cond (.tmp 70) .skip (.exit 2))) (.seq (.block 3 (.reg [⟨(some 75), none, (.mv (.tmp 13))⟩, ⟨(some 76), none, (.bin .add (.tmp 75) (.const (.int .i64 (1))))⟩, ⟨(some 13), none, (.mv (.tmp 76))⟩])) (.reg [⟨(some 71), none, (.mv (.tmp 14))⟩, ⟨(some 72), none, (.mv (.tmp 14))⟩, ⟨(some 73), none, (.bin .sub (.tmp 72) (.const (.int .i64 (1))))⟩, ⟨(some 74), none, (.bin .and (.tmp 71) (.tmp 73))⟩, ⟨(some 14), none, (.mv (.tmp 74))⟩])))
abbrev c6_b2 : CC := (.seq (.reg [⟨(some 64), none, (.bin .lss (.tmp 63) (.tmp 62))⟩]) (.seq (.cond (.tmp 64) .skip (.exit 0)) (.seq (.block 1 (.seq (.reg [⟨(some 65), none, (.iaddr 4 none (.tmp 61) (.tmp 63))⟩, ⟨(some 66), none, (.load 4 true (.tmp 65))⟩, ⟨(some 12), none, (.new 50 [(.int .i64 (0)), (.bool false), (.slice none 0 0), (.slice none 0 0)])⟩, ⟨none, none, (.store 4 (.tmp 12) (.tmp 66))⟩]) (.seq (.reg [⟨(some 13), none, (.mv (.const (.int .i64 (0))))⟩]) (.seq (.seq (.reg [⟨(some 67), none, (.faddr 0 (.tmp 12))⟩, ⟨(some 68), none, (.load 1 false (.tmp 67))⟩, ⟨(some 14), none, (.mv (.tmp 68))⟩]) (.block 2 (.loop c6_b1))) c6_k3)))) c6_k2)))
abbrev c6 : CC := (.seq (.reg [⟨(some 8), none, (.mv (.const (.bool false)))⟩]) (.seq (.seq (.reg [⟨(some 15), none, (.mv (.tmp 0))⟩, ⟨(some 16), none, (.callf (.func 14) [(.tmp 15)])⟩, ⟨(some 17), none, (.un .not (.tmp 16))⟩, ⟨(some 18), none, (.mv (.tmp 17))⟩, ⟨(some 19), (some (18, false)), (.mv (.tmp 0))⟩, ⟨(some 20), (some (18, false)), (.callf (.func 17) [(.tmp 19)])⟩, ⟨(some 21), (some (18, false)), (.callf (.func 23) [(.tmp 20)])⟩, ⟨(some 22), (some (18, false)), (.un .not (.tmp 21))⟩, ⟨(some 23), none, (.pick (.tmp 18) (.const (.bool true)) (.tmp 22))⟩]) (.cond (.tmp 23) (.seq (.reg [⟨(some 24), none, (.callf (.func 15) [])⟩, ⟨(some 8), none, (.mv (.tmp 24))⟩]) .ret) .skip)) (.seq (.reg [⟨(some 25), none, (.mv (.tmp 0))⟩, ⟨(some 26), none, (.mv (.tmp 1))⟩, ⟨(some 27), none, (.mv (.tmp 2))⟩, ⟨(some 28), none, (.callf (.func 24) [(.tmp 25), (.tmp 26), (.tmp 27)])⟩, ⟨(some 9), none, (.new 45 [(.bool false), (.slice none 0 0), (.slice none 0 0)])⟩, ⟨none, none, (.store 3 (.tmp 9) (.tmp 28))⟩]) (.seq (.seq (.reg [⟨(some 29), none, (.load 3 true (.tmp 9))⟩, ⟨(some 30), none, (.mv (.tmp 0))⟩, ⟨(some 31), none, (.mv (.tmp 2))⟩, ⟨(some 32), none, (.mv (.tmp 1))⟩, ⟨(some 33), none, (.callf (.func 24) [(.tmp 30), (.tmp 31), (.tmp 32)])⟩, ⟨(some 34), none, (.callf (.func 25) [(.tmp 29), (.tmp 33)])⟩, ⟨(some 35), none, (.bin .neq (.tmp 34) (.const (.int .i64 (0))))⟩, ⟨(some 36), none, (.mv (.tmp 35))⟩, ⟨(some 37), (some (36, false)), (.load 3 true (.tmp 9))⟩, ⟨(some 38), (some (36, false)), (.mv (.tmp 0))⟩, ⟨(some 39), (some (36, false)), (.mv (.tmp 1))⟩, ⟨(some 40), (some (36, false)), (.mv (.tmp 1))⟩, ⟨(some 41), (some (36, false)), (.callf (.func 24) [(.tmp 38), (.tmp 39), (.tmp 40)])⟩, ⟨(some 42), (some (36, false)), (.callf (.func 25) [(.tmp 37), (.tmp 41)])⟩, ⟨(some 43), (some (36, false)), (.bin .gtr (.tmp 42) (.const (.int .i64 (0))))⟩, ⟨(some 44), none, (.pick (.tmp 36) (.const (.bool true)) (.tmp 43))⟩, ⟨(some 45), none, (.mv (.tmp 44))⟩, ⟨(some 46), (some (45, false)), (.load 3 true (.tmp 9))⟩, ⟨(some 47), (some (45, false)), (.mv (.tmp 0))⟩, ⟨(some 48), (some (45, false)), (.mv (.tmp 2))⟩, ⟨(some 49), (some (45, false)), (.mv (.tmp 2))⟩, ⟨(some 50), (some (45, false)), (.callf (.func 24) [(.tmp 47), (.tmp 48), (.tmp 49)])⟩, ⟨(some 51), (some (45, false)), (.callf (.func 25) [(.tmp 46), (.tmp 50)])⟩, ⟨(some 52), (some (45, false)), (.bin .gtr (.tmp 51) (.const (.int .i64 (0))))⟩, ⟨(some 53), none, (.pick (.tmp 45) (.const (.bool true)) (.tmp 52))⟩]) (.cond (.tmp 53) (.seq (.reg [⟨(some 8), none, (.mv (.const (.bool false)))⟩]) .ret) .skip)) (.seq (.seq (.reg [⟨(some 54), none, (.mv (.tmp 0))⟩, ⟨(some 55), none, (.callf (.func 17) [(.tmp 54)])⟩, ⟨(some 56), none, (.mv (.tmp 3))⟩, ⟨(some 57), none, (.callf (.func 22) [(.tmp 55), (.tmp 56)])⟩, ⟨(some 58), none, (.un .not (.tmp 57))⟩]) (.cond (.tmp 58) (.seq (.reg [⟨(some 59), none, (.callf (.func 15) [])⟩, ⟨(some 8), none, (.mv (.tmp 59))⟩]) .ret) .skip)) (.seq (.reg [⟨(some 60), none, (.callf (.func 26) [(.const (.int .i64 (0)))])⟩, ⟨(some 10), none, (.new 45 [(.bool false), (.slice none 0 0), (.slice none 0 0)])⟩, ⟨none, none, (.store 3 (.tmp 10) (.tmp 60))⟩]) (.seq (.seq (.reg [⟨(some 61), none, (.mv (.tmp 0))⟩, ⟨(some 62), none, (.len false (.tmp 61))⟩, ⟨(some 63), none, (.mv (.const (.int .i64 (0))))⟩]) (.block 0 (.loop c6_b2))) c6_k1)))))))
theorem cc6 : ccode Tryd.prog [] (Tryd.f6.body.getD .skip) = some c6 := by kernel_rfl
theorem body6 : Tryd.f6.body = some (Tryd.f6.body.getD .skip) := rfl

theorem pairsSums_C (l : PL) (a b n : Int) (h64 : ∀ p ∈ osl l, p.set ≤ 9223372036854775807) : PureC Tryd.prog 6 [aPl l, aI a, aI b, aI n] (.ret (aB true)) := by
  have haw := awake19_C
  have hfw := few19_C l
  cases c2 : fewPt l with
  | false =>
    rw [c2] at hfw
    refine pureC_of (rs := [(RV.tmp 8)]) Tryd.func6 (fun a w => Tryd.call6 a w) body6 cc6 (by kernel_rfl) ?_
    rw [Tryd.ntmps6]
    simp only [frs, Nat.reduceAdd, Nat.reduceSub]
    repeat (first | (with_reducible first | refine Way.imp ?_ | refine blk_o rfl ?_) | ((with_reducible refine WayR.imp (fun K hK => ?_)); simp (disch := first | omega | (simp only [dls]; omega)) only [std, reduceIte, reduceCtorEq, Int.reduceToNat, Nat.reduceAdd, Nat.reduceSub, Nat.reduceMul, Int.reduceAdd, Int.reduceSub, Int.reduceMul, Int.reduceNeg, fU]; subst hK) | refine zcA (hfw) rfl rfl rfl ?_ | refine zcA (haw) rfl rfl rfl ?_)
    exact ⟨_, rfl, rfl⟩
  | true =>
  rw [c2] at hfw
  have hd := fewPt_dom c2 h64
  have hlen := hd.len
  have hof := of19_C l 12 3 hd (by decide) (by decide) (by decide)
  have hri := rright19_C l _ 12 3 (isPd_of l) hd (by decide) (by decide) (by decide)
  have hcv := rcovers_C l _ n 12 3 (isPd_of l) hd (by decide) (by decide) (by decide)
  generalize rowO (ofP l (osl l).length) = x at *
  cases c3 : rightP l with
  | false =>
    rw [c3] at hri
    refine pureC_of (rs := [(RV.tmp 8)]) Tryd.func6 (fun a w => Tryd.call6 a w) body6 cc6 (by kernel_rfl) ?_
    rw [Tryd.ntmps6]
    simp only [frs, Nat.reduceAdd, Nat.reduceSub]
    repeat (first | (with_reducible first | refine Way.imp ?_ | refine blk_o rfl ?_) | ((with_reducible refine WayR.imp (fun K hK => ?_)); simp (disch := first | omega | (simp only [dls]; omega)) only [std, reduceIte, reduceCtorEq, Int.reduceToNat, Nat.reduceAdd, Nat.reduceSub, Nat.reduceMul, Int.reduceAdd, Int.reduceSub, Int.reduceMul, Int.reduceNeg, fU]; subst hK) | refine zcA (hfw) rfl rfl rfl ?_ | (apply call_any_g (hof) rfl; (case hg => simp (disch := first | omega | (simp only [dls]; omega)) only [std, reduceIte, reduceCtorEq, Int.reduceToNat, Nat.reduceAdd, Nat.reduceSub, Nat.reduceMul, Int.reduceAdd, Int.reduceSub, Int.reduceMul, Int.reduceNeg, fU]); (case hcl => (simp only [evs, St.ev, constAV, evl]; (repeat (first | exact closeAVs_nil | (apply closeAVs_cons; (first | (refine close_own3 rfl (by decide)) | (refine close_ownO rfl (by decide) ?_; assumption) | rfl)))); done)); (case hu => rfl)) | (apply call_any_g (hri) rfl; (case hg => simp (disch := first | omega | (simp only [dls]; omega)) only [std, reduceIte, reduceCtorEq, Int.reduceToNat, Nat.reduceAdd, Nat.reduceSub, Nat.reduceMul, Int.reduceAdd, Int.reduceSub, Int.reduceMul, Int.reduceNeg, fU]); (case hcl => (simp only [evs, St.ev, constAV, evl]; (repeat (first | exact closeAVs_nil | (apply closeAVs_cons; (first | (refine close_own3 rfl (by decide)) | (refine close_ownO rfl (by decide) ?_; assumption) | rfl)))); done)); (case hu => rfl)) | refine zcA (haw) rfl rfl rfl ?_)
    exact ⟨_, rfl, rfl⟩
  | true =>
  rw [c3] at hri
  obtain ⟨hnn, hst, _⟩ := right_ok hd c3
  have t1 := ptog_C l a b 12 3 hd (by decide) (by decide) (by decide)
  have t2 := ptog_C l b a 12 3 hd (by decide) (by decide) (by decide)
  have t3 := ptog_C l a a 12 3 hd (by decide) (by decide) (by decide)
  have t4 := ptog_C l b b 12 3 hd (by decide) (by decide) (by decide)
  have f1 := fits_togQ hd (by decide) (by decide) (by decide) a b
  have f3 := fits_togQ hd (by decide) (by decide) (by decide) a a
  have f4 := fits_togQ hd (by decide) (by decide) (by decide) b b
  have l1 := togQ_le hnn a b
  have l2 := togQ_le hnn b a
  rw [togQ_comm l b a] at t2 l2
  have k1 := rcompare_C (rawQ (togQ l a b)) (rawQ (togQ l a b)) (fits_rawQ (f1.mono (by decide))) (fits_rawQ (f1.mono (by decide)))
  have k2 := rcompare_C (rawQ (togQ l a b)) (rawQ (togQ l a a)) (fits_rawQ (f1.mono (by decide))) (fits_rawQ (f3.mono (by decide)))
  have k3 := rcompare_C (rawQ (togQ l a b)) (rawQ (togQ l b b)) (fits_rawQ (f1.mono (by decide))) (fits_rawQ (f4.mono (by decide)))
  simp only [rawQ_val, cmpQ_same] at k1 k2 k3
  have m2 := cmpQ_low l1
  have m3 := cmpQ_low l2
  generalize cmpQ (togQ l a b) (togQ l a a) = g2 at *
  generalize cmpQ (togQ l a b) (togQ l b b) = g3 at *
  generalize togQ l a b = qab at *
  generalize togQ l a a = qaa at *
  generalize togQ l b b = qbb at *
  cases c4 : coversP l n with
  | false =>
    rw [c4] at hcv
    refine pureC_of (rs := [(RV.tmp 8)]) Tryd.func6 (fun a w => Tryd.call6 a w) body6 cc6 (by kernel_rfl) ?_
    rw [Tryd.ntmps6]
    simp only [frs, Nat.reduceAdd, Nat.reduceSub]
    repeat (first | (with_reducible first | refine Way.imp ?_ | refine blk_o rfl ?_) | ((with_reducible refine WayR.imp (fun K hK => ?_)); simp (disch := first | omega | (simp only [dls]; omega)) only [std, reduceIte, reduceCtorEq, Int.reduceToNat, Nat.reduceAdd, Nat.reduceSub, Nat.reduceMul, Int.reduceAdd, Int.reduceSub, Int.reduceMul, Int.reduceNeg, fU]; subst hK) | refine zcA (hfw) rfl rfl rfl ?_ | (apply call_any_g (hof) rfl; (case hg => simp (disch := first | omega | (simp only [dls]; omega)) only [std, reduceIte, reduceCtorEq, Int.reduceToNat, Nat.reduceAdd, Nat.reduceSub, Nat.reduceMul, Int.reduceAdd, Int.reduceSub, Int.reduceMul, Int.reduceNeg, fU]); (case hcl => (simp only [evs, St.ev, constAV, evl]; (repeat (first | exact closeAVs_nil | (apply closeAVs_cons; (first | (refine close_own3 rfl (by decide)) | (refine close_ownO rfl (by decide) ?_; assumption) | rfl)))); done)); (case hu => rfl)) | (apply call_any_g (hri) rfl; (case hg => simp (disch := first | omega | (simp only [dls]; omega)) only [std, reduceIte, reduceCtorEq, Int.reduceToNat, Nat.reduceAdd, Nat.reduceSub, Nat.reduceMul, Int.reduceAdd, Int.reduceSub, Int.reduceMul, Int.reduceNeg, fU]); (case hcl => (simp only [evs, St.ev, constAV, evl]; (repeat (first | exact closeAVs_nil | (apply closeAVs_cons; (first | (refine close_own3 rfl (by decide)) | (refine close_ownO rfl (by decide) ?_; assumption) | rfl)))); done)); (case hu => rfl)) | refine zcA (t1) rfl rfl rfl ?_ | refine zcA (t2) rfl rfl rfl ?_ | refine zcA (k1) rfl rfl rfl ?_ | (apply call_any_g (t3) rfl; (case hg => simp (disch := first | omega | (simp only [dls]; omega)) only [std, reduceIte, reduceCtorEq, Int.reduceToNat, Nat.reduceAdd, Nat.reduceSub, Nat.reduceMul, Int.reduceAdd, Int.reduceSub, Int.reduceMul, Int.reduceNeg, fU]); (case hcl => (simp only [evs, St.ev, constAV, evl]; (repeat (first | exact closeAVs_nil | (apply closeAVs_cons; (first | (refine close_own3 rfl (by decide)) | (refine close_ownO rfl (by decide) ?_; assumption) | rfl)))); done)); (case hu => rfl)) | (apply call_any_g (k2) rfl; (case hg => simp (disch := first | omega | (simp only [dls]; omega)) only [std, reduceIte, reduceCtorEq, Int.reduceToNat, Nat.reduceAdd, Nat.reduceSub, Nat.reduceMul, Int.reduceAdd, Int.reduceSub, Int.reduceMul, Int.reduceNeg, fU]); (case hcl => (simp only [evs, St.ev, constAV, evl]; (repeat (first | exact closeAVs_nil | (apply closeAVs_cons; (first | (refine close_own3 rfl (by decide)) | (refine close_ownO rfl (by decide) ?_; assumption) | rfl)))); done)); (case hu => rfl)) | (apply call_any_g (t4) rfl; (case hg => simp (disch := first | omega | (simp only [dls]; omega)) only [std, reduceIte, reduceCtorEq, Int.reduceToNat, Nat.reduceAdd, Nat.reduceSub, Nat.reduceMul, Int.reduceAdd, Int.reduceSub, Int.reduceMul, Int.reduceNeg, fU]); (case hcl => (simp only [evs, St.ev, constAV, evl]; (repeat (first | exact closeAVs_nil | (apply closeAVs_cons; (first | (refine close_own3 rfl (by decide)) | (refine close_ownO rfl (by decide) ?_; assumption) | rfl)))); done)); (case hu => rfl)) | (apply call_any_g (k3) rfl; (case hg => simp (disch := first | omega | (simp only [dls]; omega)) only [std, reduceIte, reduceCtorEq, Int.reduceToNat, Nat.reduceAdd, Nat.reduceSub, Nat.reduceMul, Int.reduceAdd, Int.reduceSub, Int.reduceMul, Int.reduceNeg, fU]); (case hcl => (simp only [evs, St.ev, constAV, evl]; (repeat (first | exact closeAVs_nil | (apply closeAVs_cons; (first | (refine close_own3 rfl (by decide)) | (refine close_ownO rfl (by decide) ?_; assumption) | rfl)))); done)); (case hu => rfl)) | refine zcA (hof) rfl rfl rfl ?_ | refine zcA (hcv) rfl rfl rfl ?_ | refine zcA (haw) rfl rfl rfl ?_)
    exact ⟨_, rfl, rfl⟩
  | true =>
  rw [c4] at hcv
  have hok := cov_ok hd c4
  have hn0 := hok.n0
  have hn12 := hok.n12
  have hsum := sums_all (N := (osl l).length) (n := n.toNat) (by omega) hok.cv
  have hi0 := rint_C 0 (by omega) (by omega)
  rw [show ((0 : Int) : Rat) = 0 from rfl] at hi0
  have hin := rint_C n (by omega) (by omega)
  have hnr : ((n : Int) : Rat) = ((n.toNat : Nat) : Rat) := by rw [← Rat.intCast_natCast, Int.toNat_of_nonneg hn0]
  have hw0 : wsum l 0 = 0 := rfl
  have kf := rcompare_C (rawQ (n : Rat)) (rawQ (n : Rat)) ((fits_rawQ (fits_int n (by omega) (by omega))).mono (by decide)) ((fits_rawQ (fits_int n (by omega) (by omega))).mono (by decide))
  simp only [rawQ_val, cmpQ_same] at kf
  have hwn : wsum l (osl l).length = (n : Rat) := hsum.trans hnr.symm
  refine pureC_of (rs := [(RV.tmp 8)]) Tryd.func6 (fun a w => Tryd.call6 a w) body6 cc6 (by kernel_rfl) ?_
  rw [Tryd.ntmps6]
  simp only [frs, Nat.reduceAdd, Nat.reduceSub]
  repeat (first | (with_reducible first | refine Way.imp ?_ | refine blk_o rfl ?_) | ((with_reducible refine WayR.imp (fun K hK => ?_)); simp (disch := first | omega | (simp only [dls]; omega)) only [std, reduceIte, reduceCtorEq, Int.reduceToNat, Nat.reduceAdd, Nat.reduceSub, Nat.reduceMul, Int.reduceAdd, Int.reduceSub, Int.reduceMul, Int.reduceNeg, fU]; subst hK) | refine zcA (hfw) rfl rfl rfl ?_ | (apply call_any_g (hof) rfl; (case hg => simp (disch := first | omega | (simp only [dls]; omega)) only [std, reduceIte, reduceCtorEq, Int.reduceToNat, Nat.reduceAdd, Nat.reduceSub, Nat.reduceMul, Int.reduceAdd, Int.reduceSub, Int.reduceMul, Int.reduceNeg, fU]); (case hcl => (simp only [evs, St.ev, constAV, evl]; (repeat (first | exact closeAVs_nil | (apply closeAVs_cons; (first | (refine close_own3 rfl (by decide)) | (refine close_ownO rfl (by decide) ?_; assumption) | rfl)))); done)); (case hu => rfl)) | (apply call_any_g (hri) rfl; (case hg => simp (disch := first | omega | (simp only [dls]; omega)) only [std, reduceIte, reduceCtorEq, Int.reduceToNat, Nat.reduceAdd, Nat.reduceSub, Nat.reduceMul, Int.reduceAdd, Int.reduceSub, Int.reduceMul, Int.reduceNeg, fU]); (case hcl => (simp only [evs, St.ev, constAV, evl]; (repeat (first | exact closeAVs_nil | (apply closeAVs_cons; (first | (refine close_own3 rfl (by decide)) | (refine close_ownO rfl (by decide) ?_; assumption) | rfl)))); done)); (case hu => rfl)) | refine zcA (t1) rfl rfl rfl ?_ | refine zcA (t2) rfl rfl rfl ?_ | refine zcA (k1) rfl rfl rfl ?_ | (apply call_any_g (t3) rfl; (case hg => simp (disch := first | omega | (simp only [dls]; omega)) only [std, reduceIte, reduceCtorEq, Int.reduceToNat, Nat.reduceAdd, Nat.reduceSub, Nat.reduceMul, Int.reduceAdd, Int.reduceSub, Int.reduceMul, Int.reduceNeg, fU]); (case hcl => (simp only [evs, St.ev, constAV, evl]; (repeat (first | exact closeAVs_nil | (apply closeAVs_cons; (first | (refine close_own3 rfl (by decide)) | (refine close_ownO rfl (by decide) ?_; assumption) | rfl)))); done)); (case hu => rfl)) | (apply call_any_g (k2) rfl; (case hg => simp (disch := first | omega | (simp only [dls]; omega)) only [std, reduceIte, reduceCtorEq, Int.reduceToNat, Nat.reduceAdd, Nat.reduceSub, Nat.reduceMul, Int.reduceAdd, Int.reduceSub, Int.reduceMul, Int.reduceNeg, fU]); (case hcl => (simp only [evs, St.ev, constAV, evl]; (repeat (first | exact closeAVs_nil | (apply closeAVs_cons; (first | (refine close_own3 rfl (by decide)) | (refine close_ownO rfl (by decide) ?_; assumption) | rfl)))); done)); (case hu => rfl)) | (apply call_any_g (t4) rfl; (case hg => simp (disch := first | omega | (simp only [dls]; omega)) only [std, reduceIte, reduceCtorEq, Int.reduceToNat, Nat.reduceAdd, Nat.reduceSub, Nat.reduceMul, Int.reduceAdd, Int.reduceSub, Int.reduceMul, Int.reduceNeg, fU]); (case hcl => (simp only [evs, St.ev, constAV, evl]; (repeat (first | exact closeAVs_nil | (apply closeAVs_cons; (first | (refine close_own3 rfl (by decide)) | (refine close_ownO rfl (by decide) ?_; assumption) | rfl)))); done)); (case hu => rfl)) | (apply call_any_g (k3) rfl; (case hg => simp (disch := first | omega | (simp only [dls]; omega)) only [std, reduceIte, reduceCtorEq, Int.reduceToNat, Nat.reduceAdd, Nat.reduceSub, Nat.reduceMul, Int.reduceAdd, Int.reduceSub, Int.reduceMul, Int.reduceNeg, fU]); (case hcl => (simp only [evs, St.ev, constAV, evl]; (repeat (first | exact closeAVs_nil | (apply closeAVs_cons; (first | (refine close_own3 rfl (by decide)) | (refine close_ownO rfl (by decide) ?_; assumption) | rfl)))); done)); (case hu => rfl)) | refine zcA (hof) rfl rfl rfl ?_ | refine zcA (hcv) rfl rfl rfl ?_ | refine zcA (hi0) rfl rfl rfl ?_)
  refine awp_loop (fun (zz : Nat) => ⟨(.junk :: .junk :: .junk :: aI n :: .junk :: .junk :: .junk :: .junk :: .junk :: .junk :: .one (.ptr 1 0 0 0) :: .junk :: .junk :: .junk :: .junk :: .junk :: .junk :: .junk :: .junk :: .junk :: .junk :: .junk :: .junk :: .junk :: .junk :: .junk :: .junk :: .junk :: .junk :: .junk :: .junk :: .junk :: .junk :: .junk :: .junk :: .junk :: .junk :: .junk :: .junk :: .junk :: .junk :: .junk :: .junk :: .junk :: .junk :: .junk :: .junk :: .junk :: .junk :: .junk :: .junk :: .junk :: .junk :: .junk :: .junk :: .junk :: .junk :: .junk :: .junk :: .junk :: .junk :: aPl l :: aI (osl l).length :: aI zz :: .junk :: .junk :: .junk :: .junk :: .junk :: .junk :: .junk :: .junk :: .junk :: .junk :: .junk :: .junk :: .junk :: .junk :: .junk :: .junk :: .junk :: .junk :: .junk :: .junk :: .junk :: .junk :: .junk :: .junk :: .junk :: .junk :: .junk :: .junk :: .junk :: []), [⟨0, 45, 3, [[.c (.val (.bool (rawQ qab).minus)), .c (nr (rawQ qab).size), .c (nr (rawQ qab).den)]], true, true⟩, ⟨0, 45, 3, [[.c (.val (.bool (rawQ (wsum l zz)).minus)), .c (nr (rawQ (wsum l zz)).size), .c (nr (rawQ (wsum l zz)).den)]], true, true⟩]⟩) (fun (zz : Nat) => zz ≤ (osl l).length) (fun (zz : Nat) => (osl l).length - zz) (0) ?hI1 (Fgt.head (Nat.zero_le 2) (false :: false :: false :: true :: false :: false :: false :: false :: false :: false :: true :: false :: false :: false :: false :: false :: false :: false :: false :: false :: false :: false :: false :: false :: false :: false :: false :: false :: false :: false :: false :: false :: false :: false :: false :: false :: false :: false :: false :: false :: false :: false :: false :: false :: false :: false :: false :: false :: false :: false :: false :: false :: false :: false :: false :: false :: false :: false :: false :: false :: false :: true :: true :: true :: []) ?hT1 ?hH1) ?hB1
  case hT1 => first | (simp (disch := omega) only [hds, liveT, cleanAV, cleanCell, clean1, cleanBlk, reduceIte, Int.reduceSub, Int.reduceAdd, Int.reduceNeg, hw0]; done) | rfl
  case hH1 => first | (simp (disch := omega) only [hds, liveT, cleanAV, cleanCell, clean1, cleanBlk, reduceIte, Int.reduceSub, Int.reduceAdd, Int.reduceNeg, hw0]; done) | rfl
  · exact Nat.zero_le _
  rintro i hi
  by_cases hie : i = (osl l).length
  · rw [hie, hwn]
    repeat (first | (with_reducible first | refine Way.imp ?_ | refine blk_o rfl ?_) | ((with_reducible refine WayR.imp (fun K hK => ?_)); simp (disch := first | omega | (simp only [dls]; omega)) only [std, reduceIte, reduceCtorEq, Int.reduceToNat, Nat.reduceAdd, Nat.reduceSub, Nat.reduceMul, Int.reduceAdd, Int.reduceSub, Int.reduceMul, Int.reduceNeg, fU]; subst hK) | refine zcA (hin) rfl rfl rfl ?_ | refine zcA (kf) rfl rfl rfl ?_ | (apply call_any_g (haw) rfl; (case hg => simp (disch := first | omega | (simp only [dls]; omega)) only [std, reduceIte, reduceCtorEq, Int.reduceToNat, Nat.reduceAdd, Nat.reduceSub, Nat.reduceMul, Int.reduceAdd, Int.reduceSub, Int.reduceMul, Int.reduceNeg, fU]); (case hcl => (simp only [evs, St.ev, constAV, evl]; (repeat (first | exact closeAVs_nil | (apply closeAVs_cons; (first | (refine close_own3 rfl (by decide)) | (refine close_ownO rfl (by decide) ?_; assumption) | rfl)))); done)); (case hu => rfl)))
    exact ⟨_, rfl, rfl⟩
  · have hlt : i < (osl l).length := by omega
    obtain ⟨a1, a2, a3, a4⟩ := hd.at hlt
    obtain ⟨s1, s2⟩ := hst i hlt
    have hws : wsum l (i + 1) = wsum l i + vAt l i * (((itemsL (sAt l i)).length : Nat) : Rat) := rfl
    have fw := fits_wsum hd (by decide) i hi
    have hcl : (itemsL (sAt l i)).length ≤ 12 := by
      have := List.length_filter_le (bitN (sAt l i)) (List.range 12)
      rwa [List.length_range] at this
    have hic := rint_C (((itemsL (sAt l i)).length : Nat) : Int) (by omega) (by omega)
    rw [Rat.intCast_natCast] at hic
    have fc : FitsQ (((itemsL (sAt l i)).length : Nat) : Rat) 2 := by rw [← Rat.intCast_natCast]; exact fits_int _ (by omega) (by omega)
    have hmu := rmul_C (osl l)[i].v (rawQ (((itemsL (sAt l i)).length : Nat) : Rat)) (a3.mono (by decide)) ((fits_rawQ fc).mono (by decide))
    rw [rawQ_val, a4] at hmu
    have fm : FitsQ (vAt l i * (((itemsL (sAt l i)).length : Nat) : Rat)) 5 := by rw [← a4]; exact (a3.val (by decide)).mul fc
    have hil : i * (3 + 3) ≤ 12 * 6 := Nat.mul_le_mul (by omega) (by omega)
    have had := radd_C (rawQ (wsum l i)) (rawQ (vAt l i * (((itemsL (sAt l i)).length : Nat) : Rat))) (fits_rawQ (fw.mono (by omega))) ((fits_rawQ fm).mono (by decide))
    rw [rawQ_val, rawQ_val, ← hws] at had
    generalize hT : (itemsL (sAt l i)).length = T at *
    repeat (first | (with_reducible first | refine Way.imp ?_ | refine blk_o rfl ?_) | ((with_reducible refine WayR.imp (fun K hK => ?_)); simp (disch := first | omega | (simp only [dls]; omega)) only [std, reduceIte, reduceCtorEq, Int.reduceToNat, Nat.reduceAdd, Nat.reduceSub, Nat.reduceMul, Int.reduceAdd, Int.reduceSub, Int.reduceMul, Int.reduceNeg, fU, fPt, a1]; subst hK))
    refine awp_loop (fun (zz : Nat × Nat) => ⟨(.junk :: .junk :: .junk :: aI n :: .junk :: .junk :: .junk :: .junk :: .junk :: .junk :: .one (.ptr 1 0 0 0) :: .junk :: .one (.ptr 2 0 0 0) :: aI zz.1 :: aI zz.2 :: .junk :: .junk :: .junk :: .junk :: .junk :: .junk :: .junk :: .junk :: .junk :: .junk :: .junk :: .junk :: .junk :: .junk :: .junk :: .junk :: .junk :: .junk :: .junk :: .junk :: .junk :: .junk :: .junk :: .junk :: .junk :: .junk :: .junk :: .junk :: .junk :: .junk :: .junk :: .junk :: .junk :: .junk :: .junk :: .junk :: .junk :: .junk :: .junk :: .junk :: .junk :: .junk :: .junk :: .junk :: .junk :: .junk :: aPl l :: aI (osl l).length :: aI i :: .junk :: .junk :: .junk :: .junk :: .junk :: .junk :: .junk :: .junk :: .junk :: .junk :: .junk :: .junk :: .junk :: .junk :: .junk :: .junk :: .junk :: .junk :: .junk :: .junk :: .junk :: .junk :: .junk :: .junk :: .junk :: .junk :: .junk :: .junk :: .junk :: []), [⟨0, 45, 3, [[.c (.val (.bool (rawQ qab).minus)), .c (nr (rawQ qab).size), .c (nr (rawQ qab).den)]], true, true⟩, ⟨0, 45, 3, [[.c (.val (.bool (rawQ (wsum l i)).minus)), .c (nr (rawQ (wsum l i)).size), .c (nr (rawQ (wsum l i)).den)]], true, true⟩, ⟨0, 50, 4, [[.c (.val (.int .i64 (sAt l i))), .c (.val (.bool (osl l)[i].v.minus)), .c (nr (osl l)[i].v.size), .c (nr (osl l)[i].v.den)]], true, true⟩]⟩) (fun (zz : Nat × Nat) => zz.2 < 4096 ∧ zz.1 + (itemsL zz.2).length = T) (fun (zz : Nat × Nat) => zz.2) (0, sAt l i) ?hI2 (Fgt.head (Nat.zero_le 3) (false :: false :: false :: true :: false :: false :: false :: false :: false :: false :: true :: false :: true :: true :: true :: false :: false :: false :: false :: false :: false :: false :: false :: false :: false :: false :: false :: false :: false :: false :: false :: false :: false :: false :: false :: false :: false :: false :: false :: false :: false :: false :: false :: false :: false :: false :: false :: false :: false :: false :: false :: false :: false :: false :: false :: false :: false :: false :: false :: false :: false :: true :: true :: true :: []) ?hT2 ?hH2) ?hB2
    case hT2 => first | (simp (disch := omega) only [hds, liveT, cleanAV, cleanCell, clean1, cleanBlk, reduceIte, Int.reduceSub, Int.reduceAdd, Int.reduceNeg]; done) | rfl
    case hH2 => first | (simp (disch := omega) only [hds, liveT, cleanAV, cleanCell, clean1, cleanBlk, reduceIte, Int.reduceSub, Int.reduceAdd, Int.reduceNeg]; done) | rfl
    · dsimp only; exact ⟨s2, by omega⟩
    rintro ⟨c, m⟩ ⟨hm, hc⟩
    dsimp only at hm hc
    by_cases hm0 : m = 0
    · subst hm0
      rw [items_zero] at hc
      have hcT : c = T := hc
      subst hcT
      repeat (first | (with_reducible first | refine Way.imp ?_ | refine blk_o rfl ?_) | ((with_reducible refine WayR.imp (fun K hK => ?_)); simp (disch := first | omega | (simp only [dls]; omega)) only [std, reduceIte, reduceCtorEq, Int.reduceToNat, Nat.reduceAdd, Nat.reduceSub, Nat.reduceMul, Int.reduceAdd, Int.reduceSub, Int.reduceMul, Int.reduceNeg, fU]; subst hK) | refine zcA (hic) rfl rfl rfl ?_ | refine zcA (hmu) rfl rfl rfl ?_ | refine zcA (had) rfl rfl rfl ?_)
      refine ⟨(i + 1), ?hI3, ?hM3, Fgt.head (Nat.zero_le 2) (false :: false :: false :: true :: false :: false :: false :: false :: false :: false :: true :: false :: false :: false :: false :: false :: false :: false :: false :: false :: false :: false :: false :: false :: false :: false :: false :: false :: false :: false :: false :: false :: false :: false :: false :: false :: false :: false :: false :: false :: false :: false :: false :: false :: false :: false :: false :: false :: false :: false :: false :: false :: false :: false :: false :: false :: false :: false :: false :: false :: false :: true :: true :: true :: []) ?hT3 ?hH3⟩
      case hT3 => first | (simp (disch := omega) only [hds, liveT, cleanAV, cleanCell, clean1, cleanBlk, reduceIte, Int.reduceSub, Int.reduceAdd, Int.reduceNeg]; done) | rfl
      case hH3 => first | (simp (disch := omega) only [hds, liveT, cleanAV, cleanCell, clean1, cleanBlk, reduceIte, Int.reduceSub, Int.reduceAdd, Int.reduceNeg]; done) | rfl
      · exact hlt
      · show (osl l).length - (i + 1) < (osl l).length - i; omega
    · obtain ⟨e1, e2⟩ := items_step m hm hm0
      rw [e1, List.length_cons] at hc
      have han := andI_nat m (m - 1) (by omega) (by omega)
      rw [show ((m - 1 : Nat) : Int) = (m : Int) - 1 by omega, show (m &&& (m - 1)) = nxtN m from rfl] at han
      generalize nxtN m = y at *
      repeat (first | (with_reducible first | refine Way.imp ?_ | refine blk_o rfl ?_) | ((with_reducible refine WayR.imp (fun K hK => ?_)); simp (disch := first | omega | (simp only [dls]; omega)) only [std, reduceIte, reduceCtorEq, Int.reduceToNat, Nat.reduceAdd, Nat.reduceSub, Nat.reduceMul, Int.reduceAdd, Int.reduceSub, Int.reduceMul, Int.reduceNeg, fU, han]; subst hK))
      refine ⟨(c + 1, y), ?hI4, ?hM4, Fgt.head (Nat.zero_le 3) (false :: false :: false :: true :: false :: false :: false :: false :: false :: false :: true :: false :: true :: true :: true :: false :: false :: false :: false :: false :: false :: false :: false :: false :: false :: false :: false :: false :: false :: false :: false :: false :: false :: false :: false :: false :: false :: false :: false :: false :: false :: false :: false :: false :: false :: false :: false :: false :: false :: false :: false :: false :: false :: false :: false :: false :: false :: false :: false :: false :: false :: true :: true :: true :: []) ?hT4 ?hH4⟩
      case hT4 => first | (simp (disch := omega) only [hds, liveT, cleanAV, cleanCell, clean1, cleanBlk, reduceIte, Int.reduceSub, Int.reduceAdd, Int.reduceNeg]; done) | rfl
      case hH4 => first | (simp (disch := omega) only [hds, liveT, cleanAV, cleanCell, clean1, cleanBlk, reduceIte, Int.reduceSub, Int.reduceAdd, Int.reduceNeg]; done) | rfl
      · dsimp only; exact ⟨by omega, by omega⟩
      · dsimp only; omega

end Go.Proofs.YtdhkdnmefeeclaaDoor
