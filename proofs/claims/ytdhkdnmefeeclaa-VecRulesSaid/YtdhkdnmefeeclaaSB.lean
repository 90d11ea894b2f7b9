/- The law VecRules: the walk. -/
import Derived.WalkKit
import Derived.ProofKit
import Derived.OpenShut
import Derived.ShutString
import Derived.ChangeOld
import Derived.Below
import Derived.Test.YtdhkdnmefeeclaaG4
import Derived.Test.YtdhkdnmefeeclaaK0
import Derived.Test.YtdhkdnmefeeclaaL1
set_option linter.unusedSimpArgs false
set_option linter.unusedVariables false
set_option linter.unnecessarySimpa false
set_option linter.unusedSimpArgs false
set_option linter.unusedVariables false
set_option maxRecDepth 100000
set_option maxHeartbeats 4000000
namespace Go.Proofs.Ytdhkdnmefeeclaa
open Go Go.Am Go.Proofs Go.RowKit Go.Off

theorem qAt_out {a : VV} {i : Nat} (h : (osl a).length ≤ i) : qAt a i = 0 := by unfold qAt; rw [rAt_out h]; exact zR_val
theorem dotTo_q (a b : VV) (k : Nat) : dotTo a b (k + 1) = dotTo a b k + qAt a k * qAt b k := dotTo_succ a b k
theorem dotTo_ext (a b : VV) (m : Nat) (h : vmin a b ≤ m) : dotTo a b m = dotV a b := by
  obtain ⟨d, rfl⟩ : ∃ d, m = vmin a b + d := ⟨m - vmin a b, by omega⟩
  clear h
  induction d with
  | zero => rfl
  | succ d ih =>
    rw [show vmin a b + (d + 1) = (vmin a b + d) + 1 by omega, dotTo_q, ih]
    have : qAt a (vmin a b + d) * qAt b (vmin a b + d) = 0 := by
      have hv : vmin a b = min (osl a).length (osl b).length := rfl
      by_cases h1 : (osl a).length ≤ vmin a b + d
      · rw [qAt_out h1, Rat.zero_mul]
      · rw [qAt_out (a := b) (by omega), Rat.mul_zero]
    rw [this, Rat.add_zero]
theorem dotTo_comm (a b : VV) (k : Nat) : dotTo a b k = dotTo b a k := by
  induction k with
  | zero => rfl
  | succ k ih => rw [dotTo_q, dotTo_q, ih, Rat.mul_comm]
theorem dotV_comm (a b : VV) : dotV a b = dotV b a := by
  unfold dotV vmin
  rw [dotTo_comm, Nat.min_comm]
theorem qAt_raw (l : List Rat) (i : Nat) : qAt (rowO (l.map rawQ)) i = l.getD i 0 := by
  unfold qAt rAt
  rw [osl_rowO]
  simp only [List.getD_eq_getElem?_getD, List.getElem?_map]
  cases l[i]? with
  | none => exact zR_val
  | some q => exact rawQ_val q
theorem qAt_addQ (a b : VV) (i : Nat) : qAt (rowO ((addQ a b).map rawQ)) i = qAt a i + qAt b i := by
  rw [qAt_raw]
  unfold addQ
  by_cases h : i < max (osl a).length (osl b).length
  · simp [List.getD_eq_getElem?_getD, List.getElem?_map, h]
  · rw [qAt_out (a := a) (by omega), qAt_out (a := b) (by omega), Rat.add_zero]
    simp [List.getD_eq_getElem?_getD, List.getElem?_map, h]
theorem qAt_scaleQ (a : VV) (q : Rat) (i : Nat) : qAt (rowO ((scaleQ a q).map rawQ)) i = qAt a i * q := by
  rw [qAt_raw]
  unfold scaleQ
  by_cases h : i < (osl a).length
  · unfold qAt; rw [rAt_in h]; simp [List.getD_eq_getElem?_getD, List.getElem?_map, h]
  · rw [qAt_out (a := a) (by omega)]
    simp [List.getD_eq_getElem?_getD, List.getElem?_map, h]
theorem dotTo_lin {s a b : VV} (c : VV) (h : ∀ i, qAt s i = qAt a i + qAt b i) (k : Nat) : dotTo s c k = dotTo a c k + dotTo b c k := by
  induction k with
  | zero => exact (Rat.add_zero 0).symm
  | succ k ih => rw [dotTo_q, dotTo_q, dotTo_q, ih, h]; grind
theorem dotTo_mul {s a : VV} {q : Rat} (c : VV) (h : ∀ i, qAt s i = qAt a i * q) (k : Nat) : dotTo s c k = dotTo a c k * q := by
  induction k with
  | zero => exact (Rat.zero_mul q).symm
  | succ k ih => rw [dotTo_q, dotTo_q, ih, h]; grind
theorem dotV_add (a b c : VV) : dotV (rowO ((addQ a b).map rawQ)) c = dotV a c + dotV b c := by
  have key : ∀ m, vmin (rowO ((addQ a b).map rawQ)) c ≤ m → vmin a c ≤ m → vmin b c ≤ m → dotV (rowO ((addQ a b).map rawQ)) c = dotV a c + dotV b c := fun m h1 h2 h3 => by
    rw [← dotTo_ext _ _ m h1, ← dotTo_ext _ _ m h2, ← dotTo_ext _ _ m h3]
    exact dotTo_lin c (qAt_addQ a b) m
  refine key (osl c).length (Nat.min_le_right _ _) (Nat.min_le_right _ _) (Nat.min_le_right _ _)
theorem dotV_scale (a c : VV) (q : Rat) : dotV (rowO ((scaleQ a q).map rawQ)) c = dotV a c * q := by
  rw [← dotTo_ext _ c (osl c).length (Nat.min_le_right _ _), ← dotTo_ext a c (osl c).length (Nat.min_le_right _ _)]
  exact dotTo_mul c (qAt_scaleQ a q) _
theorem cmpQ_self (q : Rat) : cmpQ q q = 0 := by have := cmpQ_zero q q; simpa using this
theorem fitsV_raw {l : List Rat} {n L : Nat} (hn : l.length ≤ n) (hl : ∀ q ∈ l, FitsQ q L) : FitsV (rowO (l.map rawQ)) n L := by
  refine ⟨by rw [osl_rowO, List.length_map]; exact hn, fun r hr => ?_⟩
  rw [osl_rowO] at hr
  obtain ⟨q, hq, rfl⟩ := List.mem_map.1 hr
  exact fits_rawQ (hl q hq)
theorem FitsV.mono {a : VV} {n m L M : Nat} (h : FitsV a n L) (hn : n ≤ m) (hL : L ≤ M) : FitsV a m M := ⟨Nat.le_trans h.1 hn, fun r hr => (h.2 r hr).mono hL⟩

abbrev c7 : CC := (CC.seq (CC.reg [⟨(some 7), none, (COp.box 40 (Operand.tmp 3))⟩, ⟨(some 8), none, (COp.mv (Operand.const (Value.bool false)))⟩]) (CC.seq (CC.seq (CC.reg [⟨(some 9), none, (COp.mv (Operand.tmp 0))⟩, ⟨(some 10), none, (COp.callf (Operand.func 26) [(Operand.tmp 9)])⟩, ⟨(some 11), none, (COp.un UnOp.not (Operand.tmp 10))⟩, ⟨(some 12), none, (COp.mv (Operand.tmp 11))⟩, ⟨(some 13), (some (12, false)), (COp.mv (Operand.tmp 1))⟩, ⟨(some 14), (some (12, false)), (COp.callf (Operand.func 26) [(Operand.tmp 13)])⟩, ⟨(some 15), (some (12, false)), (COp.un UnOp.not (Operand.tmp 14))⟩, ⟨(some 16), none, (COp.pick (Operand.tmp 12) (Operand.const (Value.bool true)) (Operand.tmp 15))⟩, ⟨(some 17), none, (COp.mv (Operand.tmp 16))⟩, ⟨(some 18), (some (17, false)), (COp.mv (Operand.tmp 2))⟩, ⟨(some 19), (some (17, false)), (COp.callf (Operand.func 26) [(Operand.tmp 18)])⟩, ⟨(some 20), (some (17, false)), (COp.un UnOp.not (Operand.tmp 19))⟩, ⟨(some 21), none, (COp.pick (Operand.tmp 17) (Operand.const (Value.bool true)) (Operand.tmp 20))⟩, ⟨(some 22), none, (COp.mv (Operand.tmp 21))⟩, ⟨(some 23), (some (22, false)), (COp.load 3 true (Operand.tmp 7))⟩, ⟨(some 24), (some (22, false)), (COp.mkrow 40 3 [(Operand.tmp 23)])⟩, ⟨(some 25), (some (22, false)), (COp.callf (Operand.func 26) [(Operand.tmp 24)])⟩, ⟨(some 26), (some (22, false)), (COp.un UnOp.not (Operand.tmp 25))⟩, ⟨(some 27), none, (COp.pick (Operand.tmp 22) (Operand.const (Value.bool true)) (Operand.tmp 26))⟩]) (CC.cond (Operand.tmp 27) (CC.seq (CC.reg [⟨(some 28), none, (COp.callf (Operand.func 27) [])⟩, ⟨(some 8), none, (COp.mv (Operand.tmp 28))⟩]) CC.ret) CC.skip)) (CC.seq (CC.reg [⟨(some 29), none, (COp.mv (Operand.tmp 0))⟩, ⟨(some 30), none, (COp.mv (Operand.tmp 1))⟩, ⟨(some 31), none, (COp.callf (Operand.func 41) [(Operand.tmp 29), (Operand.tmp 30)])⟩, ⟨(some 32), none, (COp.mv (Operand.tmp 1))⟩, ⟨(some 33), none, (COp.mv (Operand.tmp 0))⟩, ⟨(some 34), none, (COp.callf (Operand.func 41) [(Operand.tmp 32), (Operand.tmp 33)])⟩, ⟨(some 35), none, (COp.callf (Operand.func 46) [(Operand.tmp 31), (Operand.tmp 34)])⟩, ⟨(some 36), none, (COp.bin BinOp.eql (Operand.tmp 35) (Operand.const (Value.int IntKind.i64 (0))))⟩, ⟨(some 37), none, (COp.mv (Operand.tmp 36))⟩, ⟨(some 38), (some (37, true)), (COp.mv (Operand.tmp 0))⟩, ⟨(some 39), (some (37, true)), (COp.mv (Operand.tmp 1))⟩, ⟨(some 40), (some (37, true)), (COp.callf (Operand.func 43) [(Operand.tmp 38), (Operand.tmp 39)])⟩, ⟨(some 41), (some (37, true)), (COp.mv (Operand.tmp 2))⟩, ⟨(some 42), (some (37, true)), (COp.callf (Operand.func 41) [(Operand.tmp 40), (Operand.tmp 41)])⟩, ⟨(some 43), (some (37, true)), (COp.mv (Operand.tmp 0))⟩, ⟨(some 44), (some (37, true)), (COp.mv (Operand.tmp 2))⟩, ⟨(some 45), (some (37, true)), (COp.callf (Operand.func 41) [(Operand.tmp 43), (Operand.tmp 44)])⟩, ⟨(some 46), (some (37, true)), (COp.mv (Operand.tmp 1))⟩, ⟨(some 47), (some (37, true)), (COp.mv (Operand.tmp 2))⟩, ⟨(some 48), (some (37, true)), (COp.callf (Operand.func 41) [(Operand.tmp 46), (Operand.tmp 47)])⟩, ⟨(some 49), (some (37, true)), (COp.callf (Operand.func 47) [(Operand.tmp 45), (Operand.tmp 48)])⟩, ⟨(some 50), (some (37, true)), (COp.callf (Operand.func 46) [(Operand.tmp 42), (Operand.tmp 49)])⟩, ⟨(some 51), (some (37, true)), (COp.bin BinOp.eql (Operand.tmp 50) (Operand.const (Value.int IntKind.i64 (0))))⟩, ⟨(some 52), none, (COp.pick (Operand.tmp 37) (Operand.tmp 51) (Operand.const (Value.bool false)))⟩, ⟨(some 53), none, (COp.mv (Operand.tmp 52))⟩, ⟨(some 54), (some (53, true)), (COp.mv (Operand.tmp 0))⟩, ⟨(some 55), (some (53, true)), (COp.load 3 true (Operand.tmp 7))⟩, ⟨(some 56), (some (53, true)), (COp.callf (Operand.func 45) [(Operand.tmp 54), (Operand.tmp 55)])⟩, ⟨(some 57), (some (53, true)), (COp.mv (Operand.tmp 1))⟩, ⟨(some 58), (some (53, true)), (COp.callf (Operand.func 41) [(Operand.tmp 56), (Operand.tmp 57)])⟩, ⟨(some 59), (some (53, true)), (COp.mv (Operand.tmp 0))⟩, ⟨(some 60), (some (53, true)), (COp.mv (Operand.tmp 1))⟩, ⟨(some 61), (some (53, true)), (COp.callf (Operand.func 41) [(Operand.tmp 59), (Operand.tmp 60)])⟩, ⟨(some 62), (some (53, true)), (COp.load 3 true (Operand.tmp 7))⟩, ⟨(some 63), (some (53, true)), (COp.callf (Operand.func 48) [(Operand.tmp 61), (Operand.tmp 62)])⟩, ⟨(some 64), (some (53, true)), (COp.callf (Operand.func 46) [(Operand.tmp 58), (Operand.tmp 63)])⟩, ⟨(some 65), (some (53, true)), (COp.bin BinOp.eql (Operand.tmp 64) (Operand.const (Value.int IntKind.i64 (0))))⟩, ⟨(some 66), none, (COp.pick (Operand.tmp 53) (Operand.tmp 65) (Operand.const (Value.bool false)))⟩, ⟨(some 67), none, (COp.mv (Operand.tmp 66))⟩, ⟨(some 68), (some (67, true)), (COp.callf (Operand.func 27) [])⟩, ⟨(some 69), none, (COp.pick (Operand.tmp 67) (Operand.tmp 68) (Operand.const (Value.bool false)))⟩, ⟨(some 8), none, (COp.mv (Operand.tmp 69))⟩]) CC.ret)))
theorem cc7 : ccode Try.prog [] (Try.f7.body.getD .skip) = some c7 := by kernel_rfl
theorem body7 : Try.f7.body = some (Try.f7.body.getD .skip) := rfl

theorem vecRules_C (a b c : VV) (by' : RR) : PureC Try.prog 7 [aV a, aV b, aV c, aR by'] (.ret (aB true)) := by
  have h1 := few_C a
  have h2 := few_C b
  have h3 := few_C c
  have h4 := few_C (some [by'])
  have hw := awake5_C
  by_cases c1 : fewB a = true
  · rw [c1] at h1
    by_cases c2 : fewB b = true
    · rw [c2] at h2
      by_cases c3 : fewB c = true
      · rw [c3] at h3
        by_cases c4 : fewB (some [by']) = true
        · rw [c4] at h4
          have fa := fewB_fits c1
          have fb := fewB_fits c2
          have fc := fewB_fits c3
          have fy : Fits by' 3 := (fewB_fits c4).2 by' (by simp [osl])
          have fs := fitsV_raw (addQ_len fa fb) (fits_addQ fa fb (by decide))
          have fk := fitsV_raw (n := 8) (by rw [scaleQ_len]; exact fa.1) (fits_scaleQ fa fy (by decide))
          have d1 := dot_C a b 8 3 fa fb (by decide) (by decide) (by decide)
          have d2 := dot_C b a 8 3 fb fa (by decide) (by decide) (by decide)
          rw [dotV_comm b a] at d2
          have fab := fits_dotV fa fb (by decide)
          have fac := fits_dotV fa fc (by decide)
          have fbc := fits_dotV fb fc (by decide)
          have k1 := rcompare_C (rawQ (dotV a b)) (rawQ (dotV a b)) (fits_rawQ (fab.mono (by decide))) (fits_rawQ (fab.mono (by decide)))
          rw [rawQ_val, cmpQ_self] at k1
          have ad := vadd_R a b 8 3 fa fb (by decide) (by decide) (by decide)
          have d3 := dot_C _ c 8 7 fs (fc.mono (by decide) (by decide)) (by decide) (by decide) (by decide)
          have d4 := dot_C a c 8 3 fa fc (by decide) (by decide) (by decide)
          have d5 := dot_C b c 8 3 fb fc (by decide) (by decide) (by decide)
          have r1 := radd_C (rawQ (dotV a c)) (rawQ (dotV b c)) (fits_rawQ (fac.mono (by decide))) (fits_rawQ (fbc.mono (by decide)))
          rw [rawQ_val, rawQ_val] at r1
          rw [dotV_add] at d3
          have fsum : FitsQ (dotV a c + dotV b c) 200 := (fac.add1 fbc).mono (by decide)
          have k2 := rcompare_C (rawQ (dotV a c + dotV b c)) (rawQ (dotV a c + dotV b c)) (fits_rawQ (fsum.mono (by decide))) (fits_rawQ (fsum.mono (by decide)))
          rw [rawQ_val, cmpQ_self] at k2
          have sc := vscale_R a by' 8 3 fa fy (by decide) (by decide) (by decide)
          have d6 := dot_C _ b 8 6 fk (fb.mono (by decide) (by decide)) (by decide) (by decide) (by decide)
          rw [dotV_scale] at d6
          have r2 := rmul_C (rawQ (dotV a b)) by' (fits_rawQ (fab.mono (by decide))) (fy.mono (by decide))
          rw [rawQ_val] at r2
          have fpr : FitsQ (dotV a b * by'.val) 200 := (fab.mul (fy.val (by decide))).mono (by decide)
          have k3 := rcompare_C (rawQ (dotV a b * by'.val)) (rawQ (dotV a b * by'.val)) (fits_rawQ (fpr.mono (by decide))) (fits_rawQ (fpr.mono (by decide)))
          rw [rawQ_val, cmpQ_self] at k3
          generalize rowO ((addQ a b).map rawQ) = sm at *
          generalize rowO ((scaleQ a by'.val).map rawQ) = sk at *
          generalize rawQ (dotV a c + dotV b c) = q1 at *
          generalize rawQ (dotV a b * by'.val) = q2 at *
          generalize rawQ (dotV a b) = q3 at *
          generalize rawQ (dotV a c) = q4 at *
          generalize rawQ (dotV b c) = q5 at *
          refine pureC_of (rs := [(RV.tmp 8)]) Try.func7 (fun a w => Try.call7 a w) body7 cc7 (by kernel_rfl) ?_
          rw [Try.ntmps7]
          simp only [frs, Nat.reduceAdd, Nat.reduceSub]
          repeat (first | (with_reducible first | refine zw10 ?_ | refine zw1 ?_ | refine zw4 ?_ | refine zw18 ?_ | refine zw19 ?_ | refine zw11 ?_ | refine zw12 ?_ | refine zw14 ?_ | refine zw2 ?_ | refine zw5 ?_ | refine zw9 ?_ | refine zw13 ?_ | refine zw3 ?_ | refine zw6 ?_ | refine zw8 ?_ | refine zw15 ?_ | refine zw16 ?_ | refine zw17 ?_ | refine blk_o rfl ?_) | ((with_reducible first | refine zb1 mixed (fun K hK => ?_) | refine zb2 (fun K hK => ?_) | refine zb3 (fun K hK => ?_)); simp (disch := first | omega | (simp only [dls]; omega)) only [std, cev, cstep, St.ev, putT, AV.cells?, AV.int?, AV.bool?, AV.str?, readN, mkAV, putN, guardWant, bound, Value.oneCell', opO, putSt, reduceIte, reduceCtorEq, Int.reduceToNat, Nat.reduceAdd, Nat.reduceSub, Nat.reduceMul, Int.reduceAdd, Int.reduceSub, Int.reduceMul, Int.reduceNeg, fU]; subst hK) | refine zcA (h1) rfl rfl rfl ?_ | (apply call_any_g (h2) rfl; (case hg => simp (disch := first | omega | (simp only [dls]; omega)) only [std, cev, cstep, St.ev, putT, AV.cells?, AV.int?, AV.bool?, AV.str?, readN, mkAV, putN, guardWant, bound, Value.oneCell', opO, putSt, reduceIte, reduceCtorEq, Int.reduceToNat, Nat.reduceAdd, Nat.reduceSub, Nat.reduceMul, Int.reduceAdd, Int.reduceSub, Int.reduceMul, Int.reduceNeg, fU]); (case hcl => (simp only [evs, St.ev, constAV, evl]; (repeat (first | exact closeAVs_nil | (apply closeAVs_cons; (first | (apply close_own3; rfl) | (refine close_ownO rfl ?_; assumption) | rfl)))); done)); (case hu => rfl)) | (apply call_any_g (h3) rfl; (case hg => simp (disch := first | omega | (simp only [dls]; omega)) only [std, cev, cstep, St.ev, putT, AV.cells?, AV.int?, AV.bool?, AV.str?, readN, mkAV, putN, guardWant, bound, Value.oneCell', opO, putSt, reduceIte, reduceCtorEq, Int.reduceToNat, Nat.reduceAdd, Nat.reduceSub, Nat.reduceMul, Int.reduceAdd, Int.reduceSub, Int.reduceMul, Int.reduceNeg, fU]); (case hcl => (simp only [evs, St.ev, constAV, evl]; (repeat (first | exact closeAVs_nil | (apply closeAVs_cons; (first | (apply close_own3; rfl) | (refine close_ownO rfl ?_; assumption) | rfl)))); done)); (case hu => rfl)) | (apply call_flat_g (by simp (disch := first | omega | (simp only [dls]; omega)) only [std, cev, cstep, St.ev, putT, AV.cells?, AV.int?, AV.bool?, AV.str?, readN, mkAV, putN, guardWant, bound, Value.oneCell', opO, putSt, reduceIte, reduceCtorEq, Int.reduceToNat, Nat.reduceAdd, Nat.reduceSub, Nat.reduceMul, Int.reduceAdd, Int.reduceSub, Int.reduceMul, Int.reduceNeg, fU]) (h4) rfl; (case hcl => (simp only [evs, St.ev, constAV, evl]; (repeat (first | exact closeAVs_nil | (apply closeAVs_cons; (first | (apply close_own3; rfl) | (refine close_ownO rfl ?_; assumption) | rfl)))); done)); (case hf => rfl)) | refine zcA (d1) rfl rfl rfl ?_ | refine zcA (d2) rfl rfl rfl ?_ | refine zcA (k1) rfl rfl rfl ?_ | (apply call_any_g (ad) rfl; (case hg => simp (disch := first | omega | (simp only [dls]; omega)) only [std, cev, cstep, St.ev, putT, AV.cells?, AV.int?, AV.bool?, AV.str?, readN, mkAV, putN, guardWant, bound, Value.oneCell', opO, putSt, reduceIte, reduceCtorEq, Int.reduceToNat, Nat.reduceAdd, Nat.reduceSub, Nat.reduceMul, Int.reduceAdd, Int.reduceSub, Int.reduceMul, Int.reduceNeg, fU]); (case hcl => (simp only [evs, St.ev, constAV, evl]; (repeat (first | exact closeAVs_nil | (apply closeAVs_cons; (first | (apply close_own3; rfl) | (refine close_ownO rfl ?_; assumption) | rfl)))); done)); (case hu => rfl)) | (apply call_any_g (d3) rfl; (case hg => simp (disch := first | omega | (simp only [dls]; omega)) only [std, cev, cstep, St.ev, putT, AV.cells?, AV.int?, AV.bool?, AV.str?, readN, mkAV, putN, guardWant, bound, Value.oneCell', opO, putSt, reduceIte, reduceCtorEq, Int.reduceToNat, Nat.reduceAdd, Nat.reduceSub, Nat.reduceMul, Int.reduceAdd, Int.reduceSub, Int.reduceMul, Int.reduceNeg, fU]); (case hcl => (simp only [evs, St.ev, constAV, evl]; (repeat (first | exact closeAVs_nil | (apply closeAVs_cons; (first | (apply close_own3; rfl) | (refine close_ownO rfl ?_; assumption) | rfl)))); done)); (case hu => rfl)) | (apply call_any_g (d4) rfl; (case hg => simp (disch := first | omega | (simp only [dls]; omega)) only [std, cev, cstep, St.ev, putT, AV.cells?, AV.int?, AV.bool?, AV.str?, readN, mkAV, putN, guardWant, bound, Value.oneCell', opO, putSt, reduceIte, reduceCtorEq, Int.reduceToNat, Nat.reduceAdd, Nat.reduceSub, Nat.reduceMul, Int.reduceAdd, Int.reduceSub, Int.reduceMul, Int.reduceNeg, fU]); (case hcl => (simp only [evs, St.ev, constAV, evl]; (repeat (first | exact closeAVs_nil | (apply closeAVs_cons; (first | (apply close_own3; rfl) | (refine close_ownO rfl ?_; assumption) | rfl)))); done)); (case hu => rfl)) | (apply call_any_g (d5) rfl; (case hg => simp (disch := first | omega | (simp only [dls]; omega)) only [std, cev, cstep, St.ev, putT, AV.cells?, AV.int?, AV.bool?, AV.str?, readN, mkAV, putN, guardWant, bound, Value.oneCell', opO, putSt, reduceIte, reduceCtorEq, Int.reduceToNat, Nat.reduceAdd, Nat.reduceSub, Nat.reduceMul, Int.reduceAdd, Int.reduceSub, Int.reduceMul, Int.reduceNeg, fU]); (case hcl => (simp only [evs, St.ev, constAV, evl]; (repeat (first | exact closeAVs_nil | (apply closeAVs_cons; (first | (apply close_own3; rfl) | (refine close_ownO rfl ?_; assumption) | rfl)))); done)); (case hu => rfl)) | (apply call_any_g (r1) rfl; (case hg => simp (disch := first | omega | (simp only [dls]; omega)) only [std, cev, cstep, St.ev, putT, AV.cells?, AV.int?, AV.bool?, AV.str?, readN, mkAV, putN, guardWant, bound, Value.oneCell', opO, putSt, reduceIte, reduceCtorEq, Int.reduceToNat, Nat.reduceAdd, Nat.reduceSub, Nat.reduceMul, Int.reduceAdd, Int.reduceSub, Int.reduceMul, Int.reduceNeg, fU]); (case hcl => (simp only [evs, St.ev, constAV, evl]; (repeat (first | exact closeAVs_nil | (apply closeAVs_cons; (first | (apply close_own3; rfl) | (refine close_ownO rfl ?_; assumption) | rfl)))); done)); (case hu => rfl)) | (apply call_any_g (k2) rfl; (case hg => simp (disch := first | omega | (simp only [dls]; omega)) only [std, cev, cstep, St.ev, putT, AV.cells?, AV.int?, AV.bool?, AV.str?, readN, mkAV, putN, guardWant, bound, Value.oneCell', opO, putSt, reduceIte, reduceCtorEq, Int.reduceToNat, Nat.reduceAdd, Nat.reduceSub, Nat.reduceMul, Int.reduceAdd, Int.reduceSub, Int.reduceMul, Int.reduceNeg, fU]); (case hcl => (simp only [evs, St.ev, constAV, evl]; (repeat (first | exact closeAVs_nil | (apply closeAVs_cons; (first | (apply close_own3; rfl) | (refine close_ownO rfl ?_; assumption) | rfl)))); done)); (case hu => rfl)) | (apply call_any_g (sc) rfl; (case hg => simp (disch := first | omega | (simp only [dls]; omega)) only [std, cev, cstep, St.ev, putT, AV.cells?, AV.int?, AV.bool?, AV.str?, readN, mkAV, putN, guardWant, bound, Value.oneCell', opO, putSt, reduceIte, reduceCtorEq, Int.reduceToNat, Nat.reduceAdd, Nat.reduceSub, Nat.reduceMul, Int.reduceAdd, Int.reduceSub, Int.reduceMul, Int.reduceNeg, fU]); (case hcl => (simp only [evs, St.ev, constAV, evl]; (repeat (first | exact closeAVs_nil | (apply closeAVs_cons; (first | (apply close_own3; rfl) | (refine close_ownO rfl ?_; assumption) | rfl)))); done)); (case hu => rfl)) | (apply call_any_g (d6) rfl; (case hg => simp (disch := first | omega | (simp only [dls]; omega)) only [std, cev, cstep, St.ev, putT, AV.cells?, AV.int?, AV.bool?, AV.str?, readN, mkAV, putN, guardWant, bound, Value.oneCell', opO, putSt, reduceIte, reduceCtorEq, Int.reduceToNat, Nat.reduceAdd, Nat.reduceSub, Nat.reduceMul, Int.reduceAdd, Int.reduceSub, Int.reduceMul, Int.reduceNeg, fU]); (case hcl => (simp only [evs, St.ev, constAV, evl]; (repeat (first | exact closeAVs_nil | (apply closeAVs_cons; (first | (apply close_own3; rfl) | (refine close_ownO rfl ?_; assumption) | rfl)))); done)); (case hu => rfl)) | (apply call_any_g (d1) rfl; (case hg => simp (disch := first | omega | (simp only [dls]; omega)) only [std, cev, cstep, St.ev, putT, AV.cells?, AV.int?, AV.bool?, AV.str?, readN, mkAV, putN, guardWant, bound, Value.oneCell', opO, putSt, reduceIte, reduceCtorEq, Int.reduceToNat, Nat.reduceAdd, Nat.reduceSub, Nat.reduceMul, Int.reduceAdd, Int.reduceSub, Int.reduceMul, Int.reduceNeg, fU]); (case hcl => (simp only [evs, St.ev, constAV, evl]; (repeat (first | exact closeAVs_nil | (apply closeAVs_cons; (first | (apply close_own3; rfl) | (refine close_ownO rfl ?_; assumption) | rfl)))); done)); (case hu => rfl)) | (apply call_any_g (r2) rfl; (case hg => simp (disch := first | omega | (simp only [dls]; omega)) only [std, cev, cstep, St.ev, putT, AV.cells?, AV.int?, AV.bool?, AV.str?, readN, mkAV, putN, guardWant, bound, Value.oneCell', opO, putSt, reduceIte, reduceCtorEq, Int.reduceToNat, Nat.reduceAdd, Nat.reduceSub, Nat.reduceMul, Int.reduceAdd, Int.reduceSub, Int.reduceMul, Int.reduceNeg, fU]); (case hcl => (simp only [evs, St.ev, constAV, evl]; (repeat (first | exact closeAVs_nil | (apply closeAVs_cons; (first | (apply close_own3; rfl) | (refine close_ownO rfl ?_; assumption) | rfl)))); done)); (case hu => rfl)) | (apply call_any_g (k3) rfl; (case hg => simp (disch := first | omega | (simp only [dls]; omega)) only [std, cev, cstep, St.ev, putT, AV.cells?, AV.int?, AV.bool?, AV.str?, readN, mkAV, putN, guardWant, bound, Value.oneCell', opO, putSt, reduceIte, reduceCtorEq, Int.reduceToNat, Nat.reduceAdd, Nat.reduceSub, Nat.reduceMul, Int.reduceAdd, Int.reduceSub, Int.reduceMul, Int.reduceNeg, fU]); (case hcl => (simp only [evs, St.ev, constAV, evl]; (repeat (first | exact closeAVs_nil | (apply closeAVs_cons; (first | (apply close_own3; rfl) | (refine close_ownO rfl ?_; assumption) | rfl)))); done)); (case hu => rfl)) | (apply call_any_g (hw) rfl; (case hg => simp (disch := first | omega | (simp only [dls]; omega)) only [std, cev, cstep, St.ev, putT, AV.cells?, AV.int?, AV.bool?, AV.str?, readN, mkAV, putN, guardWant, bound, Value.oneCell', opO, putSt, reduceIte, reduceCtorEq, Int.reduceToNat, Nat.reduceAdd, Nat.reduceSub, Nat.reduceMul, Int.reduceAdd, Int.reduceSub, Int.reduceMul, Int.reduceNeg, fU]); (case hcl => (simp only [evs, St.ev, constAV, evl]; (repeat (first | exact closeAVs_nil | (apply closeAVs_cons; (first | (apply close_own3; rfl) | (refine close_ownO rfl ?_; assumption) | rfl)))); done)); (case hu => rfl)))
          exact ⟨_, rfl, rfl⟩
        · have c4' : fewB (some [by']) = false := by simpa using c4
          rw [c4'] at h4
          refine pureC_of (rs := [(RV.tmp 8)]) Try.func7 (fun a w => Try.call7 a w) body7 cc7 (by kernel_rfl) ?_
          rw [Try.ntmps7]
          simp only [frs, Nat.reduceAdd, Nat.reduceSub]
          repeat (first | (with_reducible first | refine zw10 ?_ | refine zw1 ?_ | refine zw4 ?_ | refine zw18 ?_ | refine zw19 ?_ | refine zw11 ?_ | refine zw12 ?_ | refine zw14 ?_ | refine zw2 ?_ | refine zw5 ?_ | refine zw9 ?_ | refine zw13 ?_ | refine zw3 ?_ | refine zw6 ?_ | refine zw8 ?_ | refine zw15 ?_ | refine zw16 ?_ | refine zw17 ?_ | refine blk_o rfl ?_) | ((with_reducible first | refine zb1 mixed (fun K hK => ?_) | refine zb2 (fun K hK => ?_) | refine zb3 (fun K hK => ?_)); simp (disch := first | omega | (simp only [dls]; omega)) only [std, cev, cstep, St.ev, putT, AV.cells?, AV.int?, AV.bool?, AV.str?, readN, mkAV, putN, guardWant, bound, Value.oneCell', opO, putSt, reduceIte, reduceCtorEq, Int.reduceToNat, Nat.reduceAdd, Nat.reduceSub, Nat.reduceMul, Int.reduceAdd, Int.reduceSub, Int.reduceMul, Int.reduceNeg, fU]; subst hK) | refine zcA (h1) rfl rfl rfl ?_ | (apply call_any_g (h2) rfl; (case hg => simp (disch := first | omega | (simp only [dls]; omega)) only [std, cev, cstep, St.ev, putT, AV.cells?, AV.int?, AV.bool?, AV.str?, readN, mkAV, putN, guardWant, bound, Value.oneCell', opO, putSt, reduceIte, reduceCtorEq, Int.reduceToNat, Nat.reduceAdd, Nat.reduceSub, Nat.reduceMul, Int.reduceAdd, Int.reduceSub, Int.reduceMul, Int.reduceNeg, fU]); (case hcl => (simp only [evs, St.ev, constAV, evl]; (repeat (first | exact closeAVs_nil | (apply closeAVs_cons; (first | (apply close_own3; rfl) | (refine close_ownO rfl ?_; assumption) | rfl)))); done)); (case hu => rfl)) | (apply call_any_g (h3) rfl; (case hg => simp (disch := first | omega | (simp only [dls]; omega)) only [std, cev, cstep, St.ev, putT, AV.cells?, AV.int?, AV.bool?, AV.str?, readN, mkAV, putN, guardWant, bound, Value.oneCell', opO, putSt, reduceIte, reduceCtorEq, Int.reduceToNat, Nat.reduceAdd, Nat.reduceSub, Nat.reduceMul, Int.reduceAdd, Int.reduceSub, Int.reduceMul, Int.reduceNeg, fU]); (case hcl => (simp only [evs, St.ev, constAV, evl]; (repeat (first | exact closeAVs_nil | (apply closeAVs_cons; (first | (apply close_own3; rfl) | (refine close_ownO rfl ?_; assumption) | rfl)))); done)); (case hu => rfl)) | (apply call_flat_g (by simp (disch := first | omega | (simp only [dls]; omega)) only [std, cev, cstep, St.ev, putT, AV.cells?, AV.int?, AV.bool?, AV.str?, readN, mkAV, putN, guardWant, bound, Value.oneCell', opO, putSt, reduceIte, reduceCtorEq, Int.reduceToNat, Nat.reduceAdd, Nat.reduceSub, Nat.reduceMul, Int.reduceAdd, Int.reduceSub, Int.reduceMul, Int.reduceNeg, fU]) (h4) rfl; (case hcl => (simp only [evs, St.ev, constAV, evl]; (repeat (first | exact closeAVs_nil | (apply closeAVs_cons; (first | (apply close_own3; rfl) | (refine close_ownO rfl ?_; assumption) | rfl)))); done)); (case hf => rfl)) | refine zcA (hw) rfl rfl rfl ?_)
          exact ⟨_, rfl, rfl⟩
      · have c3' : fewB c = false := by simpa using c3
        rw [c3'] at h3
        refine pureC_of (rs := [(RV.tmp 8)]) Try.func7 (fun a w => Try.call7 a w) body7 cc7 (by kernel_rfl) ?_
        rw [Try.ntmps7]
        simp only [frs, Nat.reduceAdd, Nat.reduceSub]
        repeat (first | (with_reducible first | refine zw10 ?_ | refine zw1 ?_ | refine zw4 ?_ | refine zw18 ?_ | refine zw19 ?_ | refine zw11 ?_ | refine zw12 ?_ | refine zw14 ?_ | refine zw2 ?_ | refine zw5 ?_ | refine zw9 ?_ | refine zw13 ?_ | refine zw3 ?_ | refine zw6 ?_ | refine zw8 ?_ | refine zw15 ?_ | refine zw16 ?_ | refine zw17 ?_ | refine blk_o rfl ?_) | ((with_reducible first | refine zb1 mixed (fun K hK => ?_) | refine zb2 (fun K hK => ?_) | refine zb3 (fun K hK => ?_)); simp (disch := first | omega | (simp only [dls]; omega)) only [std, cev, cstep, St.ev, putT, AV.cells?, AV.int?, AV.bool?, AV.str?, readN, mkAV, putN, guardWant, bound, Value.oneCell', opO, putSt, reduceIte, reduceCtorEq, Int.reduceToNat, Nat.reduceAdd, Nat.reduceSub, Nat.reduceMul, Int.reduceAdd, Int.reduceSub, Int.reduceMul, Int.reduceNeg, fU]; subst hK) | refine zcA (h1) rfl rfl rfl ?_ | (apply call_any_g (h2) rfl; (case hg => simp (disch := first | omega | (simp only [dls]; omega)) only [std, cev, cstep, St.ev, putT, AV.cells?, AV.int?, AV.bool?, AV.str?, readN, mkAV, putN, guardWant, bound, Value.oneCell', opO, putSt, reduceIte, reduceCtorEq, Int.reduceToNat, Nat.reduceAdd, Nat.reduceSub, Nat.reduceMul, Int.reduceAdd, Int.reduceSub, Int.reduceMul, Int.reduceNeg, fU]); (case hcl => (simp only [evs, St.ev, constAV, evl]; (repeat (first | exact closeAVs_nil | (apply closeAVs_cons; (first | (apply close_own3; rfl) | (refine close_ownO rfl ?_; assumption) | rfl)))); done)); (case hu => rfl)) | (apply call_any_g (h3) rfl; (case hg => simp (disch := first | omega | (simp only [dls]; omega)) only [std, cev, cstep, St.ev, putT, AV.cells?, AV.int?, AV.bool?, AV.str?, readN, mkAV, putN, guardWant, bound, Value.oneCell', opO, putSt, reduceIte, reduceCtorEq, Int.reduceToNat, Nat.reduceAdd, Nat.reduceSub, Nat.reduceMul, Int.reduceAdd, Int.reduceSub, Int.reduceMul, Int.reduceNeg, fU]); (case hcl => (simp only [evs, St.ev, constAV, evl]; (repeat (first | exact closeAVs_nil | (apply closeAVs_cons; (first | (apply close_own3; rfl) | (refine close_ownO rfl ?_; assumption) | rfl)))); done)); (case hu => rfl)) | refine zcA (hw) rfl rfl rfl ?_)
        exact ⟨_, rfl, rfl⟩
    · have c2' : fewB b = false := by simpa using c2
      rw [c2'] at h2
      refine pureC_of (rs := [(RV.tmp 8)]) Try.func7 (fun a w => Try.call7 a w) body7 cc7 (by kernel_rfl) ?_
      rw [Try.ntmps7]
      simp only [frs, Nat.reduceAdd, Nat.reduceSub]
      repeat (first | (with_reducible first | refine zw10 ?_ | refine zw1 ?_ | refine zw4 ?_ | refine zw18 ?_ | refine zw19 ?_ | refine zw11 ?_ | refine zw12 ?_ | refine zw14 ?_ | refine zw2 ?_ | refine zw5 ?_ | refine zw9 ?_ | refine zw13 ?_ | refine zw3 ?_ | refine zw6 ?_ | refine zw8 ?_ | refine zw15 ?_ | refine zw16 ?_ | refine zw17 ?_ | refine blk_o rfl ?_) | ((with_reducible first | refine zb1 mixed (fun K hK => ?_) | refine zb2 (fun K hK => ?_) | refine zb3 (fun K hK => ?_)); simp (disch := first | omega | (simp only [dls]; omega)) only [std, cev, cstep, St.ev, putT, AV.cells?, AV.int?, AV.bool?, AV.str?, readN, mkAV, putN, guardWant, bound, Value.oneCell', opO, putSt, reduceIte, reduceCtorEq, Int.reduceToNat, Nat.reduceAdd, Nat.reduceSub, Nat.reduceMul, Int.reduceAdd, Int.reduceSub, Int.reduceMul, Int.reduceNeg, fU]; subst hK) | refine zcA (h1) rfl rfl rfl ?_ | (apply call_any_g (h2) rfl; (case hg => simp (disch := first | omega | (simp only [dls]; omega)) only [std, cev, cstep, St.ev, putT, AV.cells?, AV.int?, AV.bool?, AV.str?, readN, mkAV, putN, guardWant, bound, Value.oneCell', opO, putSt, reduceIte, reduceCtorEq, Int.reduceToNat, Nat.reduceAdd, Nat.reduceSub, Nat.reduceMul, Int.reduceAdd, Int.reduceSub, Int.reduceMul, Int.reduceNeg, fU]); (case hcl => (simp only [evs, St.ev, constAV, evl]; (repeat (first | exact closeAVs_nil | (apply closeAVs_cons; (first | (apply close_own3; rfl) | (refine close_ownO rfl ?_; assumption) | rfl)))); done)); (case hu => rfl)) | refine zcA (hw) rfl rfl rfl ?_)
      exact ⟨_, rfl, rfl⟩
  · have c1' : fewB a = false := by simpa using c1
    rw [c1'] at h1
    refine pureC_of (rs := [(RV.tmp 8)]) Try.func7 (fun a w => Try.call7 a w) body7 cc7 (by kernel_rfl) ?_
    rw [Try.ntmps7]
    simp only [frs, Nat.reduceAdd, Nat.reduceSub]
    repeat (first | (with_reducible first | refine zw10 ?_ | refine zw1 ?_ | refine zw4 ?_ | refine zw18 ?_ | refine zw19 ?_ | refine zw11 ?_ | refine zw12 ?_ | refine zw14 ?_ | refine zw2 ?_ | refine zw5 ?_ | refine zw9 ?_ | refine zw13 ?_ | refine zw3 ?_ | refine zw6 ?_ | refine zw8 ?_ | refine zw15 ?_ | refine zw16 ?_ | refine zw17 ?_ | refine blk_o rfl ?_) | ((with_reducible first | refine zb1 mixed (fun K hK => ?_) | refine zb2 (fun K hK => ?_) | refine zb3 (fun K hK => ?_)); simp (disch := first | omega | (simp only [dls]; omega)) only [std, cev, cstep, St.ev, putT, AV.cells?, AV.int?, AV.bool?, AV.str?, readN, mkAV, putN, guardWant, bound, Value.oneCell', opO, putSt, reduceIte, reduceCtorEq, Int.reduceToNat, Nat.reduceAdd, Nat.reduceSub, Nat.reduceMul, Int.reduceAdd, Int.reduceSub, Int.reduceMul, Int.reduceNeg, fU]; subst hK) | refine zcA (h1) rfl rfl rfl ?_ | refine zcA (hw) rfl rfl rfl ?_)
    exact ⟨_, rfl, rfl⟩

end Go.Proofs.Ytdhkdnmefeeclaa
set_option linter.unusedVariables false
set_option maxRecDepth 100000
set_option maxHeartbeats 4000000
namespace Go.Proofs.Ytdhkdnmefeeclaa
open Go Go.Am Go.Proofs Go.RowKit Go.Off
open Go.ChangeShapes Go.WideShapes Go.ChangeAt
open Go.ChangeMaps (open_string shut_string)

set_option maxRecDepth 100000 in
theorem vecRules_lifted (os : Os) (started : os.Started) (H : Type) (enc : TypeId × Value → H) :
    ReturnsInHanded {} Try.checked os 7 .any (Rows.vecRulesSpec.pre6 enc Try.prog Try.f7 Rows.vecRulesRow.domain false) (Rows.vecRulesSpec.post enc Try.prog Try.f7 false true false false) := by
  refine returnsInHanded_of_change (C := Try.checked) ownK started (by kernel_rfl) Try.func7
    (ChangeSpec.witness6 (enc := enc) (C := Try.checked) false ⟨#[], #[.slice none 0 0, .slice none 0 0, .slice none 0 0, .agg #[.bool false, .slice none 0 0, .slice none 0 0]], []⟩ 8 (by kernel_rfl) (by kernel_rfl) (by kernel_rfl) (by kernel_rfl)) ?_
  intro W base args ds gs before hval0 hW hcnd _
  have hval : ∀ (j : Nat) t v, Try.f7.params[j]? = some t → args[j]? = some v → Value.okWide Try.prog W .any base t v := hval0
  have hW' := hW
  obtain ⟨p, q, hA0, hV, rfl, hfz, hnd⟩ := hW
  have hA : DataW.TrodAll enc Try.prog W 0 (fun _ => true) true Try.f7.params.toList args.toList ds p := hA0
  rw [Try.params7] at hA hval
  obtain ⟨v0, vs0, d0, ds0, p0, q0, hargs, rfl, rfl, h0, r0⟩ := trodAll_cons hA
  obtain ⟨v1, vs1, d1, ds1, p1, q1, rfl, rfl, rfl, h1, r1⟩ := trodAll_cons r0
  obtain ⟨v2, vs2, d2, ds2, p2, q2, rfl, rfl, rfl, h2, r2⟩ := trodAll_cons r1
  obtain ⟨v3, vs3, d3, ds3, p3, q3, rfl, rfl, rfl, h3, r3⟩ := trodAll_cons r2
  obtain ⟨rfl, rfl, rfl⟩ := trodAll_nil r3
  obtain rfl : args = #[v0, v1, v2, v3] := by cases args; simp_all
  obtain ⟨rfl, rfl⟩ := trodVars_none hV
  obtain ⟨x0, l0, c0, rfl⟩ := okWide_slice Try.underlying22 (hval 0 22 v0 rfl rfl)
  have lt0 : ∀ x ∈ p0, x.block < W.heap.size := by obtain ⟨m, hm⟩ := h0; exact DataW.trod_lt m _ _ _ hm
  obtain ⟨x1, l1, c1, rfl⟩ := okWide_slice Try.underlying22 (hval 1 22 v1 rfl rfl)
  have lt1 : ∀ x ∈ p1, x.block < W.heap.size := by obtain ⟨m, hm⟩ := h1; exact DataW.trod_lt m _ _ _ hm
  obtain ⟨x2, l2, c2, rfl⟩ := okWide_slice Try.underlying22 (hval 2 22 v2 rfl rfl)
  have lt2 : ∀ x ∈ p2, x.block < W.heap.size := by obtain ⟨m, hm⟩ := h2; exact DataW.trod_lt m _ _ _ hm
  obtain ⟨cs3, rfl⟩ : ∃ cs, v3 = .agg cs := by
    have h := hval 3 40 v3 rfl rfl
    unfold Value.okWide at h
    rw [Try.underlying40] at h
    exact h.imp fun cs hc => hc.1
  have lt3 : ∀ x ∈ p3, x.block < W.heap.size := by obtain ⟨m, hm⟩ := h3; exact DataW.trod_lt m _ _ _ hm
  obtain ⟨y0, ⟨a0, e0⟩, w0⟩ := avr_cell rd_vec h0 rfl
  obtain ⟨y1, ⟨a1, e1⟩, w1⟩ := avr_cell rd_vec h1 rfl
  obtain ⟨y2, ⟨a2, e2⟩, w2⟩ := avr_cell rd_vec h2 rfl
  obtain ⟨y3, ⟨a3, _, e3⟩, w3⟩ := avr_agg rd_rat h3
  cases e0
  cases e1
  cases e2
  subst e3
  clear hA0 hval0
  refine (law_calls (vecRules_C a0 a1 a2 a3) (.cons w0 (.cons w1 (.cons w2 (.cons w3 .nil))))).mono fun e W' ⟨he, bel⟩ => ?_
  subst he
  exact ⟨_, rfl, _, _, _, [], _, [], hW', trodAll_mk1 (shut_bool Try.underlying4 _), (trodAll_cons_mk (Below.trod laidK (by kernel_rfl) (of_decide_eq_true (by kernel_rfl)) h0 bel lt0) (trodAll_cons_mk (Below.trod laidK (by kernel_rfl) (of_decide_eq_true (by kernel_rfl)) h1 bel lt1) (trodAll_cons_mk (Below.trod laidK (by kernel_rfl) (of_decide_eq_true (by kernel_rfl)) h2 bel lt2) (trodAll_cons_mk (Below.trod laidK (by kernel_rfl) (of_decide_eq_true (by kernel_rfl)) h3 bel lt3) trodAll_mk0)))), rfl, bel.frame _, fun h => by cases h⟩

theorem vecRules_k0 : Rows.vecRulesRow.wf (OpenSpec.ofChange Rows.vecRulesSpec) = true := by kernel_rfl
theorem vecRules_k3 : Try.f7.params.all (Try.prog.readableRec ·) = true := by kernel_rfl
theorem vecRules_k4 : namedTie Try.prog Rows.vecRulesRow.named Rows.vecRulesSpec.vars = true := by kernel_rfl
theorem vecRules_k5 : (Rows.vecRulesRow.stops == []) = true := by kernel_rfl
theorem vecRules_k7 : (Rows.vecRulesRow.knobs == []) = true := by kernel_rfl
theorem vecRules_k9 : (Rows.vecRulesRow.inPlace == Try.prog.inPlace 7) = true := by kernel_rfl
theorem vecRules_k10 : (Rows.vecRulesRow.unfollowed == Try.prog.unfollowed 7) = true := by kernel_rfl
theorem vecRules_k11 : (Rows.vecRulesRow.recurses == Try.prog.recurses 7) = true := by kernel_rfl
theorem vecRules_k12 : (Rows.vecRulesRow.named == Try.prog.varsNamed 7) = true := by kernel_rfl
theorem vecRules_k13 : (Rows.vecRulesRow.maps == (Try.f7.params.toList ++ Rows.vecRulesSpec.plain.varTypes Try.prog).any (Try.prog.mapsRec ·)) = true := by kernel_rfl
theorem vecRules_k14 : (Rows.vecRulesRow.ifaces == (Try.f7.params.toList ++ Rows.vecRulesSpec.plain.varTypes Try.prog).any (Try.prog.ifacesRec ·)) = true := by kernel_rfl
theorem vecRules_k15 : (Rows.vecRulesRow.mapsOut == Try.prog.mapsAmong Try.f7.resultTypes.toList) = true := by kernel_rfl
theorem vecRules_k16 : (Rows.vecRulesRow.loops == (Try.f7.params.toList ++ Rows.vecRulesSpec.plain.varTypes Try.prog).any (Try.prog.loopsFrom ·)) = true := by kernel_rfl
theorem vecRules_k17 : (Rows.vecRulesRow.wideKeys == (Try.f7.params.toList ++ Rows.vecRulesSpec.plain.varTypes Try.prog ++ Try.f7.resultTypes.toList).any (Try.prog.wideKeysFrom ·)) = true := by kernel_rfl
theorem vecRules_k18 : Rows.vecRulesSpec.vars.all (Try.prog.varReadable ·) = true := by kernel_rfl
theorem vecRules_k19 : Try.f7.resultTypes.all (fun t => Try.prog.readableRec t && decide (t < Try.prog.types.size)) = true := by kernel_rfl
theorem vecRules_k20 : (Rows.vecRulesRow.ifacesOut == Try.f7.resultTypes.toList.any (Try.prog.ifacesRec ·)) = true := by kernel_rfl
theorem vecRules_k21 : (Rows.vecRulesRow.loopsOut == Try.f7.resultTypes.toList.any (Try.prog.loopsFrom ·)) = true := by kernel_rfl
theorem vecRules_k22 : (Rows.vecRulesRow.plainKeys == Try.prog.plainKeys) = true := by rw [kp22]; rfl
theorem vecRules_k23 : Rows.vecRulesRow.shortTexts.isNone = true := by kernel_rfl
theorem vecRules_k26 : (Rows.vecRulesRow.lifted == Try.prog.liftsFinal) = true := by rw [kp26]; rfl
theorem vecRules_k27 : (Try.prog.make == some Rows.vecRulesRow.make) = true := by rw [kp27]; rfl
theorem vecRules_k28 : (Rows.vecRulesRow.kinds == (if Rows.vecRulesRow.domain.isEmpty then [] else Try.f7.params.toList.map fun t => match Try.prog.underlying t with | some (.int k) => some k | _ => none)) = true := by kernel_rfl
theorem vecRules_k29 : (Rows.vecRulesRow.pinned == Rows.vecRulesRow.pinnedBy) = true := by kernel_rfl
theorem vecRules_k30 : (Rows.vecRulesRow.veiled == (Try.f7.params.toList ++ Rows.vecRulesSpec.plain.varTypes Try.prog ++ Try.f7.resultTypes.toList).any (Try.prog.veiledRec ·)) = true := by kernel_rfl
theorem vecRules_k31 : Rows.vecRulesRow.veiledFits Try.prog Try.f7.params.toList (Try.f7.params.toList ++ Rows.vecRulesSpec.plain.varTypes Try.prog ++ Try.f7.resultTypes.toList) = true := by kernel_rfl
theorem vecRules_facts : joinedFacts Try.prog 7 Try.f7 Rows.vecRulesSpec Rows.vecRulesRow = true := (andK (andK (andK (andK (andK (andK (andK (andK (andK (andK (andK (andK (andK (andK (andK (andK (andK (andK (andK (andK (andK (andK (andK (andK (andK (andK (andK (andK (andK (andK (andK vecRules_k0 kp1) kp2) vecRules_k3) vecRules_k4) vecRules_k5) kp6) vecRules_k7) kp8) vecRules_k9) vecRules_k10) vecRules_k11) vecRules_k12) vecRules_k13) vecRules_k14) vecRules_k15) vecRules_k16) vecRules_k17) vecRules_k18) vecRules_k19) vecRules_k20) vecRules_k21) vecRules_k22) vecRules_k23) kp24) kp25) vecRules_k26) vecRules_k27) vecRules_k28) vecRules_k29) vecRules_k30) vecRules_k31)
theorem vecRules_n1 : Try.prog.funcNamed Rows.vecRulesRow.func = some 7 := by kernel_rfl
theorem vecRules_n3 : Try.f7.isInstance Try.prog Rows.vecRulesRow.origin Rows.vecRulesRow.targs := of_decide_eq_true (by kernel_rfl)
theorem vecRules_n4 : Try.f7.isWrapper Try.prog Rows.vecRulesRow.wrapper Rows.vecRulesRow.mainSum := by unfold Func.isWrapper; first | (rw [if_pos (by decide +kernel)]; kernel_rfl) | (rw [if_neg (by decide +kernel)]; exact ⟨rfl, rfl⟩)
theorem vecRules_holds : Rows.VecRulesSaid :=
  OpenClaim.holds_of_wide 7 Try.f7 rfl rfl rfl rfl rfl rfl rfl ⟨rfl, rfl, rfl, rfl, rfl⟩ rfl rfl rfl rfl rfl vecRules_n1 Try.func7 vecRules_facts vecRules_n3 vecRules_n4
    (fun os started H enc _ => vecRules_lifted os started H enc)
#print axioms vecRules_holds
end Go.Proofs.Ytdhkdnmefeeclaa
