/- The law PairsTogether: the walk. -/
import Derived.Test.YtdhkdnmefeeclaaDoorZD
set_option linter.unusedSimpArgs false
set_option linter.unusedVariables false
set_option linter.unnecessarySimpa false
set_option linter.unusedSimpArgs false
set_option linter.unusedVariables false
set_option maxRecDepth 100000
set_option maxHeartbeats 4000000
namespace Go.Proofs.YtdhkdnmefeeclaaDoor
open Go Go.Am Go.Proofs Go.RowKit Go.Off

abbrev c12 : CC := (.seq (.reg [⟨(some 8), none, (.mv (.const (.bool false)))⟩]) (.seq (.seq (.reg [⟨(some 10), none, (.mv (.tmp 0))⟩, ⟨(some 11), none, (.callf (.func 14) [(.tmp 10)])⟩, ⟨(some 12), none, (.un .not (.tmp 11))⟩]) (.cond (.tmp 12) (.seq (.reg [⟨(some 13), none, (.callf (.func 15) [])⟩, ⟨(some 8), none, (.mv (.tmp 13))⟩]) .ret) .skip)) (.seq (.reg [⟨(some 14), none, (.mv (.tmp 0))⟩, ⟨(some 15), none, (.callf (.func 17) [(.tmp 14)])⟩, ⟨(some 9), none, (.mv (.tmp 15))⟩]) (.seq (.reg [⟨(some 16), none, (.mv (.tmp 0))⟩, ⟨(some 17), none, (.mv (.tmp 1))⟩, ⟨(some 18), none, (.mv (.tmp 2))⟩, ⟨(some 19), none, (.callf (.func 24) [(.tmp 16), (.tmp 17), (.tmp 18)])⟩, ⟨(some 20), none, (.mv (.tmp 9))⟩, ⟨(some 21), none, (.mv (.tmp 1))⟩, ⟨(some 22), none, (.mv (.tmp 2))⟩, ⟨(some 23), none, (.callf (.func 18) [(.tmp 20), (.tmp 21), (.tmp 22)])⟩, ⟨(some 24), none, (.callf (.func 41) [(.tmp 19), (.tmp 23)])⟩, ⟨(some 25), none, (.mv (.tmp 24))⟩, ⟨(some 26), (some (25, true)), (.mv (.tmp 0))⟩, ⟨(some 27), (some (25, true)), (.callf (.func 42) [(.tmp 26)])⟩, ⟨(some 28), (some (25, true)), (.mv (.tmp 9))⟩, ⟨(some 29), (some (25, true)), (.callf (.func 23) [(.tmp 28)])⟩, ⟨(some 30), (some (25, true)), (.beq false (.tmp 27) (.tmp 29))⟩, ⟨(some 31), none, (.pick (.tmp 25) (.tmp 30) (.const (.bool false)))⟩, ⟨(some 32), none, (.mv (.tmp 31))⟩, ⟨(some 33), (some (32, true)), (.mv (.tmp 0))⟩, ⟨(some 34), (some (32, true)), (.mv (.tmp 3))⟩, ⟨(some 35), (some (32, true)), (.callf (.func 43) [(.tmp 33), (.tmp 34)])⟩, ⟨(some 36), (some (32, true)), (.mv (.tmp 9))⟩, ⟨(some 37), (some (32, true)), (.mv (.tmp 3))⟩, ⟨(some 38), (some (32, true)), (.callf (.func 22) [(.tmp 36), (.tmp 37)])⟩, ⟨(some 39), (some (32, true)), (.beq false (.tmp 35) (.tmp 38))⟩, ⟨(some 40), none, (.pick (.tmp 32) (.tmp 39) (.const (.bool false)))⟩, ⟨(some 41), none, (.mv (.tmp 40))⟩, ⟨(some 42), (some (41, true)), (.callf (.func 15) [])⟩, ⟨(some 43), none, (.pick (.tmp 41) (.tmp 42) (.const (.bool false)))⟩, ⟨(some 8), none, (.mv (.tmp 43))⟩]) .ret))))
theorem cc12 : ccode Tryd.prog [] (Tryd.f12.body.getD .skip) = some c12 := by kernel_rfl
theorem body12 : Tryd.f12.body = some (Tryd.f12.body.getD .skip) := rfl

theorem pairsTogether_C (l : PL) (a b n : Int) (h64 : ∀ p ∈ osl l, p.set ≤ 9223372036854775807) : PureC Tryd.prog 12 [aPl l, aI a, aI b, aI n] (.ret (aB true)) := by
  have haw := awake19_C
  have hfw := few19_C l
  cases c2 : fewPt l with
  | false =>
    rw [c2] at hfw
    refine pureC_of (rs := [(RV.tmp 8)]) Tryd.func12 (fun a w => Tryd.call12 a w) body12 cc12 (by kernel_rfl) ?_
    rw [Tryd.ntmps12]
    simp only [frs, Nat.reduceAdd, Nat.reduceSub]
    repeat (first | (with_reducible first | refine Way.imp ?_ | refine blk_o rfl ?_) | ((with_reducible refine WayR.imp (fun K hK => ?_)); simp (disch := first | omega | (simp only [dls]; omega)) only [std, reduceIte, reduceCtorEq, Int.reduceToNat, Nat.reduceAdd, Nat.reduceSub, Nat.reduceMul, Int.reduceAdd, Int.reduceSub, Int.reduceMul, Int.reduceNeg, fU]; subst hK) | refine zcA (hfw) rfl rfl rfl ?_ | refine zcA (haw) rfl rfl rfl ?_)
    exact ⟨_, rfl, rfl⟩
  | true =>
  rw [c2] at hfw
  have hd := fewPt_dom c2 h64
  have hof := of19_C l 12 3 hd (by decide) (by decide) (by decide)
  have hx := isPd_of l
  have t1 := ptog_C l a b 12 3 hd (by decide) (by decide) (by decide)
  have t2 := rtog_C l _ a b 12 3 hx hd (by decide) (by decide) (by decide)
  have hft := fits_togQ hd (by decide) (by decide) (by decide) a b
  have hIs := is_C (togQ l a b) (togQ l a b) (hft.mono (by decide))
  rw [decide_eq_true rfl] at hIs
  have r1 := pright19_C l 3 ⟨fun p hp => ⟨by have := (hd.set p hp).1; omega, (hd.set p hp).2⟩, hd.fit⟩ (by decide) (by have := hd.len; omega)
  have r2 := rright19_C l _ 12 3 hx hd (by decide) (by decide) (by decide)
  have c3 := pcovers_C l n 12 3 hd (by decide) (by decide) (by decide)
  have c4 := rcovers_C l _ n 12 3 hx hd (by decide) (by decide) (by decide)
  generalize togQ l a b = q at *
  generalize rightP l = e1 at *
  generalize coversP l n = e2 at *
  generalize rowO (ofP l (osl l).length) = x at *
  refine pureC_of (rs := [(RV.tmp 8)]) Tryd.func12 (fun a w => Tryd.call12 a w) body12 cc12 (by kernel_rfl) ?_
  rw [Tryd.ntmps12]
  simp only [frs, Nat.reduceAdd, Nat.reduceSub]
  repeat (first | (with_reducible first | refine Way.imp ?_ | refine blk_o rfl ?_) | ((with_reducible refine WayR.imp (fun K hK => ?_)); simp (disch := first | omega | (simp only [dls]; omega)) only [std, reduceIte, reduceCtorEq, Int.reduceToNat, Nat.reduceAdd, Nat.reduceSub, Nat.reduceMul, Int.reduceAdd, Int.reduceSub, Int.reduceMul, Int.reduceNeg, fU]; subst hK) | refine zcA (hfw) rfl rfl rfl ?_ | refine zcA (haw) rfl rfl rfl ?_ | refine zcA (hof) rfl rfl rfl ?_ | refine zcA (t1) rfl rfl rfl ?_ | refine zcA (t2) rfl rfl rfl ?_ | refine zcA (hIs) rfl rfl rfl ?_ | (apply call_any_g (r1) rfl; (case hg => simp (disch := first | omega | (simp only [dls]; omega)) only [std, reduceIte, reduceCtorEq, Int.reduceToNat, Nat.reduceAdd, Nat.reduceSub, Nat.reduceMul, Int.reduceAdd, Int.reduceSub, Int.reduceMul, Int.reduceNeg, fU]); (case hcl => (simp only [evs, St.ev, constAV, evl]; (repeat (first | exact closeAVs_nil | (apply closeAVs_cons; (first | (refine close_own3 rfl (by decide)) | (refine close_ownO rfl (by decide) ?_; assumption) | rfl)))); done)); (case hu => rfl)) | (apply call_any_g (r2) rfl; (case hg => simp (disch := first | omega | (simp only [dls]; omega)) only [std, reduceIte, reduceCtorEq, Int.reduceToNat, Nat.reduceAdd, Nat.reduceSub, Nat.reduceMul, Int.reduceAdd, Int.reduceSub, Int.reduceMul, Int.reduceNeg, fU]); (case hcl => (simp only [evs, St.ev, constAV, evl]; (repeat (first | exact closeAVs_nil | (apply closeAVs_cons; (first | (refine close_own3 rfl (by decide)) | (refine close_ownO rfl (by decide) ?_; assumption) | rfl)))); done)); (case hu => rfl)) | (apply call_any_g (c3) rfl; (case hg => simp (disch := first | omega | (simp only [dls]; omega)) only [std, reduceIte, reduceCtorEq, Int.reduceToNat, Nat.reduceAdd, Nat.reduceSub, Nat.reduceMul, Int.reduceAdd, Int.reduceSub, Int.reduceMul, Int.reduceNeg, fU]); (case hcl => (simp only [evs, St.ev, constAV, evl]; (repeat (first | exact closeAVs_nil | (apply closeAVs_cons; (first | (refine close_own3 rfl (by decide)) | (refine close_ownO rfl (by decide) ?_; assumption) | rfl)))); done)); (case hu => rfl)) | (apply call_any_g (c4) rfl; (case hg => simp (disch := first | omega | (simp only [dls]; omega)) only [std, reduceIte, reduceCtorEq, Int.reduceToNat, Nat.reduceAdd, Nat.reduceSub, Nat.reduceMul, Int.reduceAdd, Int.reduceSub, Int.reduceMul, Int.reduceNeg, fU]); (case hcl => (simp only [evs, St.ev, constAV, evl]; (repeat (first | exact closeAVs_nil | (apply closeAVs_cons; (first | (refine close_own3 rfl (by decide)) | (refine close_ownO rfl (by decide) ?_; assumption) | rfl)))); done)); (case hu => rfl)) | (apply call_any_g (haw) rfl; (case hg => simp (disch := first | omega | (simp only [dls]; omega)) only [std, reduceIte, reduceCtorEq, Int.reduceToNat, Nat.reduceAdd, Nat.reduceSub, Nat.reduceMul, Int.reduceAdd, Int.reduceSub, Int.reduceMul, Int.reduceNeg, fU]); (case hcl => (simp only [evs, St.ev, constAV, evl]; (repeat (first | exact closeAVs_nil | (apply closeAVs_cons; (first | (refine close_own3 rfl (by decide)) | (refine close_ownO rfl (by decide) ?_; assumption) | rfl)))); done)); (case hu => rfl)))
  exact ⟨_, rfl, rfl⟩

end Go.Proofs.YtdhkdnmefeeclaaDoor
