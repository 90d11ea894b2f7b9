/- The law KnapMany: the walk. -/
import Derived.Test.YtdhkdnmefeeclaaJD
set_option linter.unusedSimpArgs false
set_option linter.unusedVariables false
set_option linter.unnecessarySimpa false
set_option linter.unusedSimpArgs false
set_option linter.unusedVariables false
set_option maxRecDepth 100000
set_option maxHeartbeats 4000000
namespace Go.Proofs.Ytdhkdnmefeeclaa
open Go Go.Am Go.Proofs Go.RowKit Go.Off

def onS (roll need : Int) : ST := ⟨roll, some [⟨1, need⟩]⟩
abbrev onW : VV := some [rawQ 1]
theorem onS_right {roll need : Int} (h1 : 1 ≤ roll ∧ roll ≤ 1048576) (h2 : 0 ≤ need ∧ need ≤ 1024) : rightS (onS roll need) = true := by
  have e1 : inB roll 1 1048576 = true := by unfold inB; simp [h1]
  have e2 : anyI (itBad (onS roll need)) 1 = false := anyI_of (fun i hi => by
    obtain rfl : i = 0 := by omega
    show (!((inB (1 : Int) 1 1048576) && inB need 0 1024)) = false
    have : inB need 0 1024 = true := by unfold inB; simp [h2]
    rw [this]; rfl)
  unfold rightS
  show (inB roll 1 1048576 && (decide (1 ≤ 60) && !anyI (itBad (onS roll need)) 1)) = true
  rw [e1, e2]; rfl
theorem onS_total {roll need : Int} (h1 : 1 ≤ roll ∧ roll ≤ 1048576) (h2 : 0 ≤ need ∧ need ≤ 1024) : (totalS (onS roll need) : Int) = need := by
  unfold totalS eachS
  rw [if_pos (onS_right h1 h2)]
  show (((eachTo (needG (onS roll need)) 1).length : Nat) : Int) = need
  have e := eachTo_succ_len (needG (onS roll need)) 0
  have e2 : needG (onS roll need) 0 = need := by show (if 0 ≤ need ∧ need ≤ 1024 then need else 0) = need; rw [if_pos h2]
  have e3 : (eachTo (needG (onS roll need)) 0).length = 0 := rfl
  rw [e2, e3] at e
  have e4 : (eachTo (needG (onS roll need)) 1).length = (eachTo (needG (onS roll need)) (0 + 1)).length := rfl
  rw [e4, e]
  omega
theorem onW_q : qAt onW 0 = 1 := rawQ_val 1
theorem onS_takes {roll need : Int} (h1 : 1 ≤ roll ∧ roll ≤ 1048576) (h2 : 0 ≤ need ∧ need ≤ 1024) : takesV (onS roll need) onW = [if need < roll then need else roll] := by
  have hlt : ∀ k ∈ pcS (onS roll need) onW, k < 1 := fun k hk => pcTo_lt _ _ 1 k hk
  obtain ⟨b1, b2, b3⟩ := back_done (wN (onS roll need)) (qAt onW) (pcS (onS roll need) onW) roll.toNat 1 hlt
  have hb := bestV_kv (onS roll need) onW
  unfold bestV bF at hb
  change bestF _ _ _ roll.toNat = _ at hb
  rw [hb] at b1
  show cntL 1 (backF (wN (onS roll need)) (qAt onW) (pcS (onS roll need) onW) roll.toNat (pcS (onS roll need) onW).length).2 = _
  generalize (backF (wN (onS roll need)) (qAt onW) (pcS (onS roll need) onW) roll.toNat (pcS (onS roll need) onW).length).2 = f at *
  have hge := kv_ge (N := 1) (W := fun k => (itAt (onS roll need) k).width) (need := fun k => (itAt (onS roll need) k).need) (q := qAt onW) (R := roll.toNat) (n := fun _ => (if need < roll then need else roll).toNat)
    (fun k hk => by
      obtain rfl : k = 0 := by omega
      show _ ≤ need.toNat
      split <;> omega) (by
      show 0 + (if need < roll then need else roll).toNat * (1 : Int).toNat ≤ roll.toNat
      have : (1 : Int).toNat = 1 := rfl
      rw [this]
      split <;> omega)
  have e1 : sumR 1 (fun k => qAt onW k * ((f k : Nat) : Rat)) = ((f 0 : Nat) : Rat) := by
    show 0 + qAt onW 0 * ((f 0 : Nat) : Rat) = _
    rw [onW_q]; grind
  have e2 : sumR 1 (fun k => qAt onW k * (((if need < roll then need else roll).toNat : Nat) : Rat)) = (((if need < roll then need else roll).toNat : Nat) : Rat) := by
    show 0 + qAt onW 0 * _ = _
    rw [onW_q]; grind
  rw [e2] at hge
  rw [e1] at b1
  have h3 : (if need < roll then need else roll).toNat ≤ f 0 := by
    change _ = kvS (onS roll need) onW at b1
    change _ ≤ kvS (onS roll need) onW at hge
    rw [← b1] at hge
    exact_mod_cast hge
  have h4 : f 0 ≤ roll.toNat := by
    change 0 + f 0 * wN (onS roll need) 0 ≤ roll.toNat at b2
    have : wN (onS roll need) 0 = 1 := rfl
    rw [this] at b2
    omega
  have h5 : f 0 ≤ need.toNat := by
    have := b3 0
    rw [pcS_eq, pieceL_count] at this
    by_cases hh : 0 < (osl (onS roll need).items).length ∧ decide (0 < qAt onW 0) = true
    · rw [if_pos hh] at this; exact this
    · rw [if_neg hh] at this; omega
  show [((f 0 : Nat) : Int)] = _
  congr 1
  split at h3 <;> split <;> omega
theorem litIt1 (a b : Int) : [[Cell.c (.val (.int .i64 a)), Cell.c (.val (.int .i64 b))]] = encB fItm [⟨a, b⟩] := rfl
theorem litN1 (x : Int) : [[Cell.c (.val (.int .i64 x))]] = encB fI [x] := rfl

abbrev c21 : CC := (.seq (.reg [⟨(some 4), none, (.mv (.const (.bool false)))⟩]) (.seq (.seq (.reg [⟨(some 7), none, (.mv (.tmp 0))⟩, ⟨(some 8), none, (.bin .lss (.tmp 7) (.const (.int .i64 (1))))⟩, ⟨(some 9), none, (.mv (.tmp 8))⟩, ⟨(some 10), (some (9, false)), (.mv (.tmp 0))⟩, ⟨(some 11), (some (9, false)), (.bin .gtr (.tmp 10) (.const (.int .i64 (1048576))))⟩, ⟨(some 12), none, (.pick (.tmp 9) (.const (.bool true)) (.tmp 11))⟩, ⟨(some 13), none, (.mv (.tmp 12))⟩, ⟨(some 14), (some (13, false)), (.mv (.tmp 1))⟩, ⟨(some 15), (some (13, false)), (.bin .lss (.tmp 14) (.const (.int .i64 (0))))⟩, ⟨(some 16), none, (.pick (.tmp 13) (.const (.bool true)) (.tmp 15))⟩, ⟨(some 17), none, (.mv (.tmp 16))⟩, ⟨(some 18), (some (17, false)), (.mv (.tmp 1))⟩, ⟨(some 19), (some (17, false)), (.bin .gtr (.tmp 18) (.const (.int .i64 (1024))))⟩, ⟨(some 20), none, (.pick (.tmp 17) (.const (.bool true)) (.tmp 19))⟩]) (.cond (.tmp 20) (.seq (.reg [⟨(some 21), none, (.callf (.func 84) [])⟩, ⟨(some 4), none, (.mv (.tmp 21))⟩]) .ret) .skip)) (.seq (.reg [⟨(some 23), none, (.mv (.tmp 0))⟩, ⟨(some 24), none, (.mv (.tmp 1))⟩, ⟨(some 25), none, (.build [(.int .i64 (0)), (.int .i64 (0))] [(0, (1, (.const (.int .i64 (1))))), (1, (1, (.tmp 24)))])⟩, ⟨(some 26), none, (.mkrow 121 2 [(.tmp 25)])⟩, ⟨(some 27), none, (.build [(.int .i64 (0)), (.slice none 0 0)] [(0, (1, (.tmp 23))), (1, (1, (.tmp 26)))])⟩, ⟨(some 28), none, (.mkrow 3 1 [(.const (.int .i64 (1)))])⟩, ⟨(some 29), none, (.callf (.func 57) [(.tmp 28)])⟩, ⟨(some 30), none, (.callf (.func 85) [(.tmp 27), (.tmp 29)])⟩, ⟨(some 22), none, (.mv (.tmp 30))⟩, ⟨(some 31), none, (.ext (.tmp 22) 0)⟩, ⟨(some 32), none, (.ext (.tmp 22) 1)⟩, ⟨(some 5), none, (.new 117 [(.bool false), (.slice none 0 0), (.slice none 0 0), (.slice none 0 0)])⟩, ⟨none, none, (.store 4 (.tmp 5) (.tmp 31))⟩, ⟨(some 6), none, (.mv (.tmp 32))⟩]) (.seq (.seq (.reg [⟨(some 33), none, (.mv (.tmp 0))⟩, ⟨(some 34), none, (.bin .gtr (.tmp 33) (.const (.int .i64 (512))))⟩, ⟨(some 35), none, (.mv (.tmp 34))⟩, ⟨(some 36), (some (35, false)), (.mv (.tmp 1))⟩, ⟨(some 37), (some (35, false)), (.bin .gtr (.tmp 36) (.const (.int .i64 (64))))⟩, ⟨(some 38), none, (.pick (.tmp 35) (.const (.bool true)) (.tmp 37))⟩]) (.cond (.tmp 38) (.seq (.reg [⟨(some 39), none, (.faddr 3 (.tmp 5))⟩, ⟨(some 40), none, (.load 1 false (.tmp 39))⟩, ⟨(some 41), none, (.len false (.tmp 40))⟩, ⟨(some 42), none, (.bin .eql (.tmp 41) (.const (.int .i64 (0))))⟩, ⟨(some 43), none, (.mv (.tmp 42))⟩, ⟨(some 44), (some (43, true)), (.mv (.tmp 6))⟩, ⟨(some 45), (some (43, true)), (.bin .eql (.tmp 44) (.const (.int .i64 (4))))⟩, ⟨(some 46), none, (.pick (.tmp 43) (.tmp 45) (.const (.bool false)))⟩, ⟨(some 47), none, (.mv (.tmp 46))⟩, ⟨(some 48), (some (47, true)), (.callf (.func 84) [])⟩, ⟨(some 49), none, (.pick (.tmp 47) (.tmp 48) (.const (.bool false)))⟩, ⟨(some 4), none, (.mv (.tmp 49))⟩]) .ret) .skip)) (.seq (.reg [⟨(some 50), none, (.mv (.tmp 6))⟩, ⟨(some 51), none, (.bin .eql (.tmp 50) (.const (.int .i64 (0))))⟩, ⟨(some 52), none, (.mv (.tmp 51))⟩, ⟨(some 53), (some (52, true)), (.faddr 3 (.tmp 5))⟩, ⟨(some 54), (some (52, true)), (.load 1 false (.tmp 53))⟩, ⟨(some 55), (some (52, true)), (.len false (.tmp 54))⟩, ⟨(some 56), (some (52, true)), (.bin .eql (.tmp 55) (.const (.int .i64 (1))))⟩, ⟨(some 57), none, (.pick (.tmp 52) (.tmp 56) (.const (.bool false)))⟩, ⟨(some 58), none, (.mv (.tmp 57))⟩, ⟨(some 59), (some (58, true)), (.faddr 3 (.tmp 5))⟩, ⟨(some 60), (some (58, true)), (.load 1 false (.tmp 59))⟩, ⟨(some 61), (some (58, true)), (.iaddr 1 none (.tmp 60) (.const (.int .i64 (0))))⟩, ⟨(some 62), (some (58, true)), (.load 1 false (.tmp 61))⟩, ⟨(some 63), (some (58, true)), (.mv (.tmp 0))⟩, ⟨(some 64), (some (58, true)), (.mv (.tmp 1))⟩, ⟨(some 65), (some (58, true)), (.mm false (.tmp 63) (.tmp 64))⟩, ⟨(some 66), (some (58, true)), (.bin .eql (.tmp 62) (.tmp 65))⟩, ⟨(some 67), none, (.pick (.tmp 58) (.tmp 66) (.const (.bool false)))⟩, ⟨(some 68), none, (.mv (.tmp 67))⟩, ⟨(some 69), (some (68, true)), (.callf (.func 84) [])⟩, ⟨(some 70), none, (.pick (.tmp 68) (.tmp 69) (.const (.bool false)))⟩, ⟨(some 4), none, (.mv (.tmp 70))⟩]) .ret)))))
theorem cc21 : ccode Try.prog [] (Try.f21.body.getD .skip) = some c21 := by kernel_rfl
theorem body21 : Try.f21.body = some (Try.f21.body.getD .skip) := rfl

theorem knapMany_C (roll need : Int) (hbr : -9223372036854775808 ≤ roll ∧ roll ≤ 9223372036854775807) (hbn : -9223372036854775808 ≤ need ∧ need ≤ 9223372036854775807) : PureC Try.prog 21 [aI roll, aI need] (.ret (aB true)) := by
  have haw := awake16_C
  by_cases c1 : 1 ≤ roll
  case neg =>
    refine pureC_of (rs := [(RV.tmp 4)]) Try.func21 (fun a w => Try.call21 a w) body21 cc21 (by kernel_rfl) ?_
    rw [Try.ntmps21]
    simp only [frs, Nat.reduceAdd, Nat.reduceSub]
    repeat (first | (with_reducible first | refine Way.imp ?_ | refine blk_o rfl ?_) | ((with_reducible refine WayR.imp (fun K hK => ?_)); simp (disch := first | omega | (simp only [dls]; omega)) only [std, reduceIte, reduceCtorEq, Int.reduceToNat, Nat.reduceAdd, Nat.reduceSub, Nat.reduceMul, Int.reduceAdd, Int.reduceSub, Int.reduceMul, Int.reduceNeg, fU]; subst hK) | refine zcA (haw) rfl rfl rfl ?_)
    exact ⟨_, rfl, rfl⟩
  by_cases c2 : roll ≤ 1048576
  case neg =>
    refine pureC_of (rs := [(RV.tmp 4)]) Try.func21 (fun a w => Try.call21 a w) body21 cc21 (by kernel_rfl) ?_
    rw [Try.ntmps21]
    simp only [frs, Nat.reduceAdd, Nat.reduceSub]
    repeat (first | (with_reducible first | refine Way.imp ?_ | refine blk_o rfl ?_) | ((with_reducible refine WayR.imp (fun K hK => ?_)); simp (disch := first | omega | (simp only [dls]; omega)) only [std, reduceIte, reduceCtorEq, Int.reduceToNat, Nat.reduceAdd, Nat.reduceSub, Nat.reduceMul, Int.reduceAdd, Int.reduceSub, Int.reduceMul, Int.reduceNeg, fU]; subst hK) | refine zcA (haw) rfl rfl rfl ?_)
    exact ⟨_, rfl, rfl⟩
  by_cases c3 : 0 ≤ need
  case neg =>
    refine pureC_of (rs := [(RV.tmp 4)]) Try.func21 (fun a w => Try.call21 a w) body21 cc21 (by kernel_rfl) ?_
    rw [Try.ntmps21]
    simp only [frs, Nat.reduceAdd, Nat.reduceSub]
    repeat (first | (with_reducible first | refine Way.imp ?_ | refine blk_o rfl ?_) | ((with_reducible refine WayR.imp (fun K hK => ?_)); simp (disch := first | omega | (simp only [dls]; omega)) only [std, reduceIte, reduceCtorEq, Int.reduceToNat, Nat.reduceAdd, Nat.reduceSub, Nat.reduceMul, Int.reduceAdd, Int.reduceSub, Int.reduceMul, Int.reduceNeg, fU]; subst hK) | refine zcA (haw) rfl rfl rfl ?_)
    exact ⟨_, rfl, rfl⟩
  by_cases c4 : need ≤ 1024
  case neg =>
    refine pureC_of (rs := [(RV.tmp 4)]) Try.func21 (fun a w => Try.call21 a w) body21 cc21 (by kernel_rfl) ?_
    rw [Try.ntmps21]
    simp only [frs, Nat.reduceAdd, Nat.reduceSub]
    repeat (first | (with_reducible first | refine Way.imp ?_ | refine blk_o rfl ?_) | ((with_reducible refine WayR.imp (fun K hK => ?_)); simp (disch := first | omega | (simp only [dls]; omega)) only [std, reduceIte, reduceCtorEq, Int.reduceToNat, Nat.reduceAdd, Nat.reduceSub, Nat.reduceMul, Int.reduceAdd, Int.reduceSub, Int.reduceMul, Int.reduceNeg, fU]; subst hK) | refine zcA (haw) rfl rfl rfl ?_)
    exact ⟨_, rfl, rfl⟩
  have i1 := ints_R [1] (by decide) (by decide)
  change PureC _ _ _ (.ret (aV (some [rawQ 1]))) at i1
  have f1 : FitsV onW 1 2 := ⟨Nat.le_refl _, fun r hr => by
    rw [osl_some] at hr
    rw [List.mem_singleton.1 hr]; exact fits_rawQ (fits_int 1 (by decide) (by decide))⟩
  have hb := kbest_C (onS roll need) onW 1 2 f1 (by decide) (by decide) (by decide)
  have hr := onS_right ⟨c1, c2⟩ ⟨c3, c4⟩
  have hT := onS_total (roll := roll) ⟨c1, c2⟩ ⟨c3, c4⟩
  have htk := onS_takes ⟨c1, c2⟩ ⟨c3, c4⟩
  by_cases c5 : roll > 512 ∨ need > 64
  · have e : bestR (onS roll need) onW = aCh zR none 4 := by
      unfold bestR
      rw [if_neg (by rw [hr]; simp), if_neg (fun h => h rfl), if_pos (by show roll > 512 ∨ _; omega)]
    rw [e] at hb
    clear f1
    unfold onS at hb
    change PureC _ _ [_, aV (some [rawQ 1])] _ at hb
    generalize rawQ 1 = q1 at *
    by_cases c6 : roll > 512
    · refine pureC_of (rs := [(RV.tmp 4)]) Try.func21 (fun a w => Try.call21 a w) body21 cc21 (by kernel_rfl) ?_
      rw [Try.ntmps21]
      simp only [frs, Nat.reduceAdd, Nat.reduceSub]
      repeat (first | (with_reducible first | refine Way.imp ?_ | refine blk_o rfl ?_) | ((with_reducible refine WayR.imp (fun K hK => ?_)); simp (disch := first | omega | (simp only [dls]; omega)) only [std, reduceIte, reduceCtorEq, Int.reduceToNat, Nat.reduceAdd, Nat.reduceSub, Nat.reduceMul, Int.reduceAdd, Int.reduceSub, Int.reduceMul, Int.reduceNeg, fU, litIt1, litN1, fCh, fR, List.cons_append, List.nil_append, List.map_cons, List.map_nil]; subst hK) | (apply call_ret (i1) rfl; (case hcl => (simp only [evs, St.ev, constAV, evl]; (repeat (first | exact closeAVs_nil | (apply closeAVs_cons; (first | (refine close_own3 rfl (by decide)) | (refine close_ownO rfl (by decide) ?_; assumption) | rfl)))); done)); (case hf => rfl); (case hu => (simp only [evs, St.ev, constAV, evl]; (repeat (first | exact used_nil | (apply used_cons; (first | (apply used_own3; rfl) | rfl)))); done)); (case hh => ((simp only [fzl, Nat.reduceBEq, Nat.reduceAdd, Bool.false_eq_true, if_true, if_false, reduceIte]) <;> rfl))) | (apply call_flat (hb) rfl; (case hcl => (simp only [evs, St.ev, constAV, evl]; (repeat (first | exact closeAVs_nil | (apply closeAVs_cons; (first | (refine close_own3 rfl (by decide)) | (refine close_ownO rfl (by decide) ?_; assumption) | rfl)))); done)); (case hf => rfl)) | (apply call_any_g (haw) rfl; (case hg => simp (disch := first | omega | (simp only [dls]; omega)) only [std, reduceIte, reduceCtorEq, Int.reduceToNat, Nat.reduceAdd, Nat.reduceSub, Nat.reduceMul, Int.reduceAdd, Int.reduceSub, Int.reduceMul, Int.reduceNeg, fU, litIt1, litN1, fCh, fR, List.cons_append, List.nil_append, List.map_cons, List.map_nil]); (case hcl => (simp only [evs, St.ev, constAV, evl]; (repeat (first | exact closeAVs_nil | (apply closeAVs_cons; (first | (refine close_own3 rfl (by decide)) | (refine close_ownO rfl (by decide) ?_; assumption) | rfl)))); done)); (case hu => rfl)))
      exact ⟨_, rfl, rfl⟩
    · have c7 : need > 64 := by omega
      refine pureC_of (rs := [(RV.tmp 4)]) Try.func21 (fun a w => Try.call21 a w) body21 cc21 (by kernel_rfl) ?_
      rw [Try.ntmps21]
      simp only [frs, Nat.reduceAdd, Nat.reduceSub]
      repeat (first | (with_reducible first | refine Way.imp ?_ | refine blk_o rfl ?_) | ((with_reducible refine WayR.imp (fun K hK => ?_)); simp (disch := first | omega | (simp only [dls]; omega)) only [std, reduceIte, reduceCtorEq, Int.reduceToNat, Nat.reduceAdd, Nat.reduceSub, Nat.reduceMul, Int.reduceAdd, Int.reduceSub, Int.reduceMul, Int.reduceNeg, fU, litIt1, litN1, fCh, fR, List.cons_append, List.nil_append, List.map_cons, List.map_nil]; subst hK) | (apply call_ret (i1) rfl; (case hcl => (simp only [evs, St.ev, constAV, evl]; (repeat (first | exact closeAVs_nil | (apply closeAVs_cons; (first | (refine close_own3 rfl (by decide)) | (refine close_ownO rfl (by decide) ?_; assumption) | rfl)))); done)); (case hf => rfl); (case hu => (simp only [evs, St.ev, constAV, evl]; (repeat (first | exact used_nil | (apply used_cons; (first | (apply used_own3; rfl) | rfl)))); done)); (case hh => ((simp only [fzl, Nat.reduceBEq, Nat.reduceAdd, Bool.false_eq_true, if_true, if_false, reduceIte]) <;> rfl))) | (apply call_flat (hb) rfl; (case hcl => (simp only [evs, St.ev, constAV, evl]; (repeat (first | exact closeAVs_nil | (apply closeAVs_cons; (first | (refine close_own3 rfl (by decide)) | (refine close_ownO rfl (by decide) ?_; assumption) | rfl)))); done)); (case hf => rfl)) | (apply call_any_g (haw) rfl; (case hg => simp (disch := first | omega | (simp only [dls]; omega)) only [std, reduceIte, reduceCtorEq, Int.reduceToNat, Nat.reduceAdd, Nat.reduceSub, Nat.reduceMul, Int.reduceAdd, Int.reduceSub, Int.reduceMul, Int.reduceNeg, fU, litIt1, litN1, fCh, fR, List.cons_append, List.nil_append, List.map_cons, List.map_nil]); (case hcl => (simp only [evs, St.ev, constAV, evl]; (repeat (first | exact closeAVs_nil | (apply closeAVs_cons; (first | (refine close_own3 rfl (by decide)) | (refine close_ownO rfl (by decide) ?_; assumption) | rfl)))); done)); (case hu => rfl)))
      exact ⟨_, rfl, rfl⟩
  · have e : bestR (onS roll need) onW = aCh (rawQ (kvS (onS roll need) onW)) (some [if need < roll then need else roll]) 0 := by
      unfold bestR
      rw [if_neg (by rw [hr]; simp), if_neg (fun h => h rfl), if_neg (by show ¬ (roll > 512 ∨ _); omega), bestV_kv, htk]
    rw [e] at hb
    clear f1 htk
    generalize kvS (onS roll need) onW = v at *
    unfold onS at hb
    change PureC _ _ [_, aV (some [rawQ 1])] _ at hb
    generalize rawQ 1 = q1 at *
    generalize rawQ v = q2 at *
    by_cases c6 : need < roll
    · rw [if_pos c6] at hb
      refine pureC_of (rs := [(RV.tmp 4)]) Try.func21 (fun a w => Try.call21 a w) body21 cc21 (by kernel_rfl) ?_
      rw [Try.ntmps21]
      simp only [frs, Nat.reduceAdd, Nat.reduceSub]
      repeat (first | (with_reducible first | refine Way.imp ?_ | refine blk_o rfl ?_) | ((with_reducible refine WayR.imp (fun K hK => ?_)); simp (disch := first | omega | (simp only [dls]; omega)) only [std, reduceIte, reduceCtorEq, Int.reduceToNat, Nat.reduceAdd, Nat.reduceSub, Nat.reduceMul, Int.reduceAdd, Int.reduceSub, Int.reduceMul, Int.reduceNeg, fU, litIt1, litN1, fCh, fR, fI, List.getElem_cons_succ, List.getElem_cons_zero, List.cons_append, List.nil_append, List.map_cons, List.map_nil]; subst hK) | (apply call_ret (i1) rfl; (case hcl => (simp only [evs, St.ev, constAV, evl]; (repeat (first | exact closeAVs_nil | (apply closeAVs_cons; (first | (refine close_own3 rfl (by decide)) | (refine close_ownO rfl (by decide) ?_; assumption) | rfl)))); done)); (case hf => rfl); (case hu => (simp only [evs, St.ev, constAV, evl]; (repeat (first | exact used_nil | (apply used_cons; (first | (apply used_own3; rfl) | rfl)))); done)); (case hh => ((simp only [fzl, Nat.reduceBEq, Nat.reduceAdd, Bool.false_eq_true, if_true, if_false, reduceIte]) <;> rfl))) | (apply call_ret (ids := [0]) (hb) rfl; (case hcl => (simp only [evs, St.ev, constAV, evl]; (repeat (first | exact closeAVs_nil | (apply closeAVs_cons; (first | (refine close_own3 rfl (by decide)) | (refine close_ownO rfl (by decide) ?_; assumption) | rfl)))); done)); (case hf => exact flat_Ch ..); (case hu => rfl); (case hh => ((simp only [fzl, Nat.reduceBEq, Nat.reduceAdd, Bool.false_eq_true, if_true, if_false, reduceIte]) <;> rfl))) | (apply call_any_g (haw) rfl; (case hg => simp (disch := first | omega | (simp only [dls]; omega)) only [std, reduceIte, reduceCtorEq, Int.reduceToNat, Nat.reduceAdd, Nat.reduceSub, Nat.reduceMul, Int.reduceAdd, Int.reduceSub, Int.reduceMul, Int.reduceNeg, fU, litIt1, litN1, fCh, fR, fI, List.getElem_cons_succ, List.getElem_cons_zero, List.cons_append, List.nil_append, List.map_cons, List.map_nil]); (case hcl => (simp only [evs, St.ev, constAV, evl]; (repeat (first | exact closeAVs_nil | (apply closeAVs_cons; (first | (refine close_own3 rfl (by decide)) | (refine close_ownO rfl (by decide) ?_; assumption) | rfl)))); done)); (case hu => rfl)))
      exact ⟨_, rfl, rfl⟩
    · rw [if_neg c6] at hb
      refine pureC_of (rs := [(RV.tmp 4)]) Try.func21 (fun a w => Try.call21 a w) body21 cc21 (by kernel_rfl) ?_
      rw [Try.ntmps21]
      simp only [frs, Nat.reduceAdd, Nat.reduceSub]
      repeat (first | (with_reducible first | refine Way.imp ?_ | refine blk_o rfl ?_) | ((with_reducible refine WayR.imp (fun K hK => ?_)); simp (disch := first | omega | (simp only [dls]; omega)) only [std, reduceIte, reduceCtorEq, Int.reduceToNat, Nat.reduceAdd, Nat.reduceSub, Nat.reduceMul, Int.reduceAdd, Int.reduceSub, Int.reduceMul, Int.reduceNeg, fU, litIt1, litN1, fCh, fR, fI, List.getElem_cons_succ, List.getElem_cons_zero, List.cons_append, List.nil_append, List.map_cons, List.map_nil]; subst hK) | (apply call_ret (i1) rfl; (case hcl => (simp only [evs, St.ev, constAV, evl]; (repeat (first | exact closeAVs_nil | (apply closeAVs_cons; (first | (refine close_own3 rfl (by decide)) | (refine close_ownO rfl (by decide) ?_; assumption) | rfl)))); done)); (case hf => rfl); (case hu => (simp only [evs, St.ev, constAV, evl]; (repeat (first | exact used_nil | (apply used_cons; (first | (apply used_own3; rfl) | rfl)))); done)); (case hh => ((simp only [fzl, Nat.reduceBEq, Nat.reduceAdd, Bool.false_eq_true, if_true, if_false, reduceIte]) <;> rfl))) | (apply call_ret (ids := [0]) (hb) rfl; (case hcl => (simp only [evs, St.ev, constAV, evl]; (repeat (first | exact closeAVs_nil | (apply closeAVs_cons; (first | (refine close_own3 rfl (by decide)) | (refine close_ownO rfl (by decide) ?_; assumption) | rfl)))); done)); (case hf => exact flat_Ch ..); (case hu => rfl); (case hh => ((simp only [fzl, Nat.reduceBEq, Nat.reduceAdd, Bool.false_eq_true, if_true, if_false, reduceIte]) <;> rfl))) | (apply call_any_g (haw) rfl; (case hg => simp (disch := first | omega | (simp only [dls]; omega)) only [std, reduceIte, reduceCtorEq, Int.reduceToNat, Nat.reduceAdd, Nat.reduceSub, Nat.reduceMul, Int.reduceAdd, Int.reduceSub, Int.reduceMul, Int.reduceNeg, fU, litIt1, litN1, fCh, fR, fI, List.getElem_cons_succ, List.getElem_cons_zero, List.cons_append, List.nil_append, List.map_cons, List.map_nil]); (case hcl => (simp only [evs, St.ev, constAV, evl]; (repeat (first | exact closeAVs_nil | (apply closeAVs_cons; (first | (refine close_own3 rfl (by decide)) | (refine close_ownO rfl (by decide) ?_; assumption) | rfl)))); done)); (case hu => rfl)))
      exact ⟨_, rfl, rfl⟩

end Go.Proofs.Ytdhkdnmefeeclaa
