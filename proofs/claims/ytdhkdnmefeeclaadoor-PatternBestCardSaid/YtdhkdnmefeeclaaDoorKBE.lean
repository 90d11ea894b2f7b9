/- The worth of a set, as the reference tells it; the law PatternBest. -/
import Derived.Test.YtdhkdnmefeeclaaDoorUD
import Derived.Test.YtdhkdnmefeeclaaDoorVR
set_option linter.unusedSimpArgs false
set_option linter.unusedVariables false
set_option linter.unnecessarySimpa false
set_option linter.unusedSimpArgs false
set_option linter.unusedVariables false
set_option maxRecDepth 100000
set_option maxHeartbeats 4000000
namespace Go.Proofs.YtdhkdnmefeeclaaDoor
open Go Go.Am Go.Proofs Go.RowKit Go.Off

theorem worth_succ (ws : VV) (n k : Nat) : worthL ws (bitsTo n (k + 1)) = if bitN n k then worthL ws (bitsTo n k) + qAt ws k else worthL ws (bitsTo n k) := by
  rw [bitsTo_succ]
  split
  · rw [worthL_snoc]
  · rw [List.append_nil]
theorem worth_out (ws : VV) (n m : Nat) (hm : (osl ws).length ≤ m) : ∀ j, worthL ws (bitsTo n (m + j)) = worthL ws (bitsTo n m)
  | 0 => rfl
  | j + 1 => by
    rw [← Nat.add_assoc, worth_succ, worth_out ws n m hm j, q_out (by omega)]
    split
    · grind
    · rfl
theorem worth_to (ws : VV) (n : Nat) (hn : n < 4096) : worthL ws (bitsTo n (min (osl ws).length 12)) = worthN ws n := by
  unfold worthN
  rw [items_to (m := 12) hn (by omega)]
  by_cases h : (osl ws).length ≤ 12
  · rw [show min (osl ws).length 12 = (osl ws).length by omega]
    have := worth_out ws n (osl ws).length (by omega) (12 - (osl ws).length)
    rw [show (osl ws).length + (12 - (osl ws).length) = 12 by omega] at this
    exact this.symm
  · rw [show min (osl ws).length 12 = 12 by omega]
theorem bitsTo_len (n k : Nat) : (bitsTo n k).length ≤ k := by
  unfold bitsTo
  have := List.length_filter_le (bitN n) (List.range k)
  rwa [List.length_range] at this
theorem dec00 : decZ ((0 : Rat).num) = [48] := by decide +kernel
theorem dec01 : dec ((0 : Rat).den) = [49] := by decide +kernel

abbrev c46_k1 : CC := (.seq (.reg [⟨(some 27), none, (.load 2 true (.tmp 5))⟩, ⟨none, none, (.store 2 (.tmp 4) (.tmp 27))⟩]) .ret)
abbrev c46_b1 : CC := (.seq (.seq (.reg [⟨(some 8), none, (.mv (.tmp 6))⟩, ⟨(some 9), none, (.mv (.tmp 0))⟩, ⟨(some 10), none, (.len false (.tmp 9))⟩, ⟨(some 11), none, (.bin .lss (.tmp 8) (.tmp 10))⟩, ⟨(some 12), none, (.mv (.tmp 11))⟩, ⟨(some 13), (some (12, true)), (.mv (.tmp 6))⟩, ⟨(some 14), (some (12, true)), (.bin .lss (.tmp 13) (.const (.int .i64 (12))))⟩, ⟨(some 15), none, (.pick (.tmp 12) (.tmp 14) (.const (.bool false)))⟩]) (.cond (.tmp 15) .skip (.exit 0))) (.seq (.block 1 (.seq (.reg [⟨(some 18), none, (.mv (.tmp 1))⟩, ⟨(some 19), none, (.mv (.tmp 6))⟩, ⟨(some 20), none, (.callf (.func 37) [(.tmp 18), (.tmp 19)])⟩]) (.cond (.tmp 20) (.reg [⟨(some 21), none, (.load 2 true (.tmp 5))⟩, ⟨(some 22), none, (.mv (.tmp 0))⟩, ⟨(some 23), none, (.mv (.tmp 6))⟩, ⟨(some 24), none, (.iaddr 2 none (.tmp 22) (.tmp 23))⟩, ⟨(some 25), none, (.load 2 true (.tmp 24))⟩, ⟨(some 26), none, (.callf (.func 51) [(.tmp 21), (.tmp 25)])⟩, ⟨none, none, (.store 2 (.tmp 5) (.tmp 26))⟩]) .skip))) (.reg [⟨(some 16), none, (.mv (.tmp 6))⟩, ⟨(some 17), none, (.bin .add (.tmp 16) (.const (.int .i64 (1))))⟩, ⟨(some 6), none, (.mv (.tmp 17))⟩])))
abbrev c46 : CC := (.seq (.reg [⟨(some 4), none, (.new 28 [(.string ⟨#[]⟩), (.string ⟨#[]⟩)])⟩]) (.seq (.reg [⟨(some 7), none, (.build [(.string ⟨#[]⟩), (.string ⟨#[]⟩)] [(0, (1, (.const (.string ⟨#[48]⟩)))), (1, (1, (.const (.string ⟨#[49]⟩))))])⟩, ⟨(some 5), none, (.new 28 [(.string ⟨#[]⟩), (.string ⟨#[]⟩)])⟩, ⟨none, none, (.store 2 (.tmp 5) (.tmp 7))⟩]) (.seq (.seq (.reg [⟨(some 6), none, (.mv (.const (.int .i64 (0))))⟩]) (.block 0 (.loop c46_b1))) c46_k1)))
theorem cc46 : ccode Tryd.prog [] (Tryd.f46.body.getD .skip) = some c46 := by kernel_rfl
theorem body46 : Tryd.f46.body = some (Tryd.f46.body.getD .skip) := rfl

theorem rworth_C (ws : VV) (x : DV) (n N L : Nat) (hxl : (osl x).length = (osl ws).length) (hxi : ∀ i (h : i < (osl x).length), (osl x)[i] = qAt ws i) (hw : FitsV ws N L) (hN : N ≤ 1000) (hL : 1 ≤ L) (hL2 : L ≤ 1000) (hn : n < 4096) : PureC Tryd.prog 46 [aD x, aI n] (.ret (aQ (worthN ws n))) := by
  have h0 : worthL ws (bitsTo n 0) = 0 := rfl
  have hwN := hw.1
  rw [← worth_to ws n hn]
  refine pureC_of (rs := [(RV.cell 4 2 true)]) Tryd.func46 (fun a w => Tryd.call46 a w) body46 cc46 (by kernel_rfl) ?_
  rw [Tryd.ntmps46]
  simp only [frs, Nat.reduceAdd, Nat.reduceSub]
  repeat (first | (with_reducible first | refine Way.imp ?_ | refine blk_o rfl ?_) | ((with_reducible refine WayR.imp (fun K hK => ?_)); simp (disch := first | omega | (simp only [dls]; omega)) only [std, reduceIte, reduceCtorEq, Int.reduceToNat, Nat.reduceAdd, Nat.reduceSub, Nat.reduceMul, Int.reduceAdd, Int.reduceSub, Int.reduceMul, Int.reduceNeg, fU]; subst hK))
  refine awp_loop (fun (zz : Nat) => ⟨(aD x :: aI n :: .junk :: .junk :: .one (.ptr 0 0 0 0) :: .one (.ptr 1 0 0 0) :: aI zz :: .junk :: .junk :: .junk :: .junk :: .junk :: .junk :: .junk :: .junk :: .junk :: .junk :: .junk :: .junk :: .junk :: .junk :: .junk :: .junk :: .junk :: .junk :: .junk :: .junk :: .junk :: []), [⟨0, 28, 2, [[.c (.val (.string ⟨#[]⟩)), .c (.val (.string ⟨#[]⟩))]], true, true⟩, ⟨0, 28, 2, [[.c (.str (decZ (worthL ws (bitsTo n zz)).num)), .c (.str (dec (worthL ws (bitsTo n zz)).den))]], true, true⟩]⟩) (fun (zz : Nat) => zz ≤ min (osl ws).length 12) (fun (zz : Nat) => min (osl ws).length 12 - zz) (0) ?hI1 (Fgt.head (Nat.zero_le 2) [true, true, false, false, true, true, true] ?hT1 ?hH1) ?hB1
  case hT1 => first | (simp (disch := omega) only [hds, liveT, cleanAV, cleanCell, clean1, cleanBlk, reduceIte, Int.reduceSub, Int.reduceAdd, Int.reduceNeg, h0, dec00, dec01]; done) | rfl
  case hH1 => first | (simp (disch := omega) only [hds, liveT, cleanAV, cleanCell, clean1, cleanBlk, reduceIte, Int.reduceSub, Int.reduceAdd, Int.reduceNeg, h0, dec00, dec01]; done) | rfl
  · exact Nat.zero_le _
  rintro k hk
  by_cases h1 : k < (osl ws).length
  · by_cases h2 : k < 12
    · have hin := in_C n k (by omega) (by omega)
      have hs := worth_succ ws n k
      have hfs : FitsQ (worthL ws (bitsTo n k)) (12 * (L + 1) + 1) := (fits_worthL hw hL _).mono (by have := Nat.mul_le_mul_right (L + 1) (Nat.le_trans (bitsTo_len n k) (by omega : k ≤ 12)); omega)
      have hq : FitsQ (qAt ws k) L := by
        unfold qAt
        rw [rAt_in h1]
        exact (hw.2 _ (List.getElem_mem h1)).val hL
      have had := qadd_C (worthL ws (bitsTo n k)) (qAt ws k) (hfs.mono (by omega)) (hq.mono (by omega))
      have hxk := hxi k (by omega)
      cases hb : bitN n k with
      | true =>
        rw [hb] at hin
        rw [hb, if_pos rfl] at hs
        generalize worthL ws (bitsTo n k) = v at *
        generalize qAt ws k = qk at *
        repeat (first | (with_reducible first | refine Way.imp ?_ | refine blk_o rfl ?_) | ((with_reducible refine WayR.imp (fun K hK => ?_)); simp (disch := first | omega | (simp only [dls]; omega)) only [std, reduceIte, reduceCtorEq, Int.reduceToNat, Nat.reduceAdd, Nat.reduceSub, Nat.reduceMul, Int.reduceAdd, Int.reduceSub, Int.reduceMul, Int.reduceNeg, fU, hxl, hxk, fD]; subst hK) | refine zcA (hin) rfl rfl rfl ?_ | refine zcA (had) rfl rfl rfl ?_)
        refine ⟨(k + 1), ?hI2, ?hM2, Fgt.head (Nat.zero_le 2) [true, true, false, false, true, true, true] ?hT2 ?hH2⟩
        case hT2 => first | (simp (disch := omega) only [hds, liveT, cleanAV, cleanCell, clean1, cleanBlk, reduceIte, Int.reduceSub, Int.reduceAdd, Int.reduceNeg, hs]; done) | rfl
        case hH2 => first | (simp (disch := omega) only [hds, liveT, cleanAV, cleanCell, clean1, cleanBlk, reduceIte, Int.reduceSub, Int.reduceAdd, Int.reduceNeg, hs]; done) | rfl
        · show k + 1 ≤ _; omega
        · show min (osl ws).length 12 - (k + 1) < min (osl ws).length 12 - k; omega
      | false =>
        rw [hb] at hin
        rw [hb, if_neg (by simp)] at hs
        repeat (first | (with_reducible first | refine Way.imp ?_ | refine blk_o rfl ?_) | ((with_reducible refine WayR.imp (fun K hK => ?_)); simp (disch := first | omega | (simp only [dls]; omega)) only [std, reduceIte, reduceCtorEq, Int.reduceToNat, Nat.reduceAdd, Nat.reduceSub, Nat.reduceMul, Int.reduceAdd, Int.reduceSub, Int.reduceMul, Int.reduceNeg, fU, hxl, hxk, fD]; subst hK) | refine zcA (hin) rfl rfl rfl ?_)
        refine ⟨(k + 1), ?hI3, ?hM3, Fgt.head (Nat.zero_le 2) [true, true, false, false, true, true, true] ?hT3 ?hH3⟩
        case hT3 => first | (simp (disch := omega) only [hds, liveT, cleanAV, cleanCell, clean1, cleanBlk, reduceIte, Int.reduceSub, Int.reduceAdd, Int.reduceNeg, hs]; done) | rfl
        case hH3 => first | (simp (disch := omega) only [hds, liveT, cleanAV, cleanCell, clean1, cleanBlk, reduceIte, Int.reduceSub, Int.reduceAdd, Int.reduceNeg, hs]; done) | rfl
        · show k + 1 ≤ _; omega
        · show min (osl ws).length 12 - (k + 1) < min (osl ws).length 12 - k; omega
    · have him : k = min (osl ws).length 12 := by omega
      rw [← him]
      repeat (first | (with_reducible first | refine Way.imp ?_ | refine blk_o rfl ?_) | ((with_reducible refine WayR.imp (fun K hK => ?_)); simp (disch := first | omega | (simp only [dls]; omega)) only [std, reduceIte, reduceCtorEq, Int.reduceToNat, Nat.reduceAdd, Nat.reduceSub, Nat.reduceMul, Int.reduceAdd, Int.reduceSub, Int.reduceMul, Int.reduceNeg, fU, hxl]; subst hK))
      exact ⟨_, rfl, rfl⟩
  · have him : k = min (osl ws).length 12 := by omega
    rw [← him]
    repeat (first | (with_reducible first | refine Way.imp ?_ | refine blk_o rfl ?_) | ((with_reducible refine WayR.imp (fun K hK => ?_)); simp (disch := first | omega | (simp only [dls]; omega)) only [std, reduceIte, reduceCtorEq, Int.reduceToNat, Nat.reduceAdd, Nat.reduceSub, Nat.reduceMul, Int.reduceAdd, Int.reduceSub, Int.reduceMul, Int.reduceNeg, fU, hxl]; subst hK))
    exact ⟨_, rfl, rfl⟩

end Go.Proofs.YtdhkdnmefeeclaaDoor
set_option linter.unusedSimpArgs false
set_option linter.unusedVariables false
set_option maxRecDepth 100000
set_option maxHeartbeats 4000000
namespace Go.Proofs.YtdhkdnmefeeclaaDoor
open Go Go.Am Go.Proofs Go.RowKit Go.Off

theorem rowD_at (ws : VV) : ∀ i (h : i < (osl (rowO (rowD ws))).length), (osl (rowO (rowD ws)))[i] = qAt ws i := fun i h => by
  have hi : i < (osl ws).length := by rw [osl_rowO] at h; unfold rowD at h; rwa [List.length_map] at h
  unfold qAt
  rw [rAt_in hi]
  simp [rowD, osl_rowO]

abbrev c13_k1 : CC := (.seq (.reg [⟨(some 64), none, (.mv (.tmp 9))⟩, ⟨(some 65), none, (.mv (.tmp 11))⟩, ⟨(some 66), none, (.bin .eql (.tmp 64) (.tmp 65))⟩, ⟨(some 67), none, (.mv (.tmp 66))⟩, ⟨(some 68), (some (67, true)), (.load 3 true (.tmp 10))⟩, ⟨(some 69), (some (67, true)), (.load 2 true (.tmp 12))⟩, ⟨(some 70), (some (67, true)), (.callf (.func 41) [(.tmp 68), (.tmp 69)])⟩, ⟨(some 71), none, (.pick (.tmp 67) (.tmp 70) (.const (.bool false)))⟩, ⟨(some 72), none, (.mv (.tmp 71))⟩, ⟨(some 73), (some (72, true)), (.callf (.func 29) [])⟩, ⟨(some 74), none, (.pick (.tmp 72) (.tmp 73) (.const (.bool false)))⟩, ⟨(some 8), none, (.mv (.tmp 74))⟩]) .ret)
abbrev c13_b1 : CC := (.seq (.reg [⟨(some 48), none, (.bin .lss (.tmp 47) (.tmp 46))⟩]) (.seq (.cond (.tmp 48) .skip (.exit 0)) (.seq (.block 1 (.seq (.reg [⟨(some 49), none, (.iaddr 1 none (.tmp 45) (.tmp 47))⟩, ⟨(some 50), none, (.load 1 false (.tmp 49))⟩, ⟨(some 15), none, (.mv (.tmp 50))⟩]) (.seq (.reg [⟨(some 51), none, (.mv (.tmp 13))⟩, ⟨(some 52), none, (.mv (.tmp 15))⟩, ⟨(some 53), none, (.callf (.func 46) [(.tmp 51), (.tmp 52)])⟩, ⟨(some 16), none, (.new 28 [(.string ⟨#[]⟩), (.string ⟨#[]⟩)])⟩, ⟨none, none, (.store 2 (.tmp 16) (.tmp 53))⟩]) (.seq (.reg [⟨(some 54), none, (.mv (.tmp 11))⟩, ⟨(some 55), none, (.bin .eql (.tmp 54) (.const (.int .i64 (0))))⟩, ⟨(some 56), none, (.mv (.tmp 55))⟩, ⟨(some 57), (some (56, false)), (.load 2 true (.tmp 12))⟩, ⟨(some 58), (some (56, false)), (.load 2 true (.tmp 16))⟩, ⟨(some 59), (some (56, false)), (.callf (.func 19) [(.tmp 57), (.tmp 58)])⟩, ⟨(some 60), none, (.pick (.tmp 56) (.const (.bool true)) (.tmp 59))⟩]) (.cond (.tmp 60) (.reg [⟨(some 61), none, (.mv (.tmp 15))⟩, ⟨(some 62), none, (.load 2 true (.tmp 16))⟩, ⟨(some 11), none, (.mv (.tmp 61))⟩, ⟨none, none, (.store 2 (.tmp 12) (.tmp 62))⟩]) .skip))))) (.reg [⟨(some 63), none, (.bin .add (.tmp 47) (.const (.int .i64 (1))))⟩, ⟨(some 47), none, (.mv (.tmp 63))⟩]))))
abbrev c13 : CC := (.seq (.reg [⟨(some 8), none, (.mv (.const (.bool false)))⟩]) (.seq (.seq (.reg [⟨(some 17), none, (.mv (.tmp 1))⟩, ⟨(some 18), none, (.len false (.tmp 17))⟩, ⟨(some 19), none, (.bin .gtr (.tmp 18) (.const (.int .i64 (7))))⟩, ⟨(some 20), none, (.mv (.tmp 19))⟩, ⟨(some 21), (some (20, false)), (.mv (.tmp 2))⟩, ⟨(some 22), (some (20, false)), (.len false (.tmp 21))⟩, ⟨(some 23), (some (20, false)), (.bin .gtr (.tmp 22) (.const (.int .i64 (20))))⟩, ⟨(some 24), none, (.pick (.tmp 20) (.const (.bool true)) (.tmp 23))⟩, ⟨(some 25), none, (.mv (.tmp 24))⟩, ⟨(some 26), (some (25, false)), (.mv (.tmp 3))⟩, ⟨(some 27), (some (25, false)), (.callf (.func 44) [(.tmp 26)])⟩, ⟨(some 28), (some (25, false)), (.un .not (.tmp 27))⟩, ⟨(some 29), none, (.pick (.tmp 25) (.const (.bool true)) (.tmp 28))⟩]) (.cond (.tmp 29) (.seq (.reg [⟨(some 30), none, (.callf (.func 29) [])⟩, ⟨(some 8), none, (.mv (.tmp 30))⟩]) .ret) .skip)) (.seq (.reg [⟨(some 32), none, (.mv (.tmp 0))⟩, ⟨(some 33), none, (.mv (.tmp 1))⟩, ⟨(some 34), none, (.mv (.tmp 2))⟩, ⟨(some 35), none, (.mv (.tmp 3))⟩, ⟨(some 36), none, (.callf (.func 39) [(.tmp 32), (.tmp 33), (.tmp 34), (.tmp 35)])⟩, ⟨(some 31), none, (.mv (.tmp 36))⟩, ⟨(some 37), none, (.ext (.tmp 31) 0)⟩, ⟨(some 38), none, (.ext (.tmp 31) 1)⟩, ⟨(some 10), none, (.new 45 [(.bool false), (.slice none 0 0), (.slice none 0 0)])⟩, ⟨(some 9), none, (.mv (.tmp 37))⟩, ⟨none, none, (.store 3 (.tmp 10) (.tmp 38))⟩]) (.seq (.reg [⟨(some 11), none, (.mv (.const (.int .i64 (0))))⟩]) (.seq (.reg [⟨(some 39), none, (.build [(.string ⟨#[]⟩), (.string ⟨#[]⟩)] [(0, (1, (.const (.string ⟨#[48]⟩)))), (1, (1, (.const (.string ⟨#[49]⟩))))])⟩, ⟨(some 12), none, (.new 28 [(.string ⟨#[]⟩), (.string ⟨#[]⟩)])⟩, ⟨none, none, (.store 2 (.tmp 12) (.tmp 39))⟩]) (.seq (.reg [⟨(some 40), none, (.mv (.tmp 3))⟩, ⟨(some 41), none, (.callf (.func 45) [(.tmp 40)])⟩, ⟨(some 13), none, (.mv (.tmp 41))⟩]) (.seq (.seq (.reg [⟨(some 42), none, (.mv (.tmp 0))⟩, ⟨(some 43), none, (.mv (.tmp 1))⟩, ⟨(some 44), none, (.mv (.tmp 2))⟩, ⟨(some 45), none, (.callf (.func 36) [(.tmp 42), (.tmp 43), (.tmp 44)])⟩, ⟨(some 46), none, (.len false (.tmp 45))⟩, ⟨(some 47), none, (.mv (.const (.int .i64 (0))))⟩]) (.block 0 (.loop c13_b1))) c13_k1)))))))
theorem cc13 : ccode Tryd.prog [] (Tryd.f13.body.getD .skip) = some c13 := by kernel_rfl
theorem body13 : Tryd.f13.body = some (Tryd.f13.body.getD .skip) := rfl

theorem patternBest_C (roll : Int) (l : WI) (r : RL) (ws : VV) : PureC Tryd.prog 13 [aI roll, aWs l, aRl r, aV ws] (.ret (aB true)) := by
  have haw := awake18_C
  have hfw := few_C ws
  by_cases h7 : (osl l).length ≤ 7
  rotate_left
  · refine pureC_of (rs := [(RV.tmp 8)]) Tryd.func13 (fun a w => Tryd.call13 a w) body13 cc13 (by kernel_rfl) ?_
    rw [Tryd.ntmps13]
    simp only [frs, Nat.reduceAdd, Nat.reduceSub]
    repeat (first | (with_reducible first | refine Way.imp ?_ | refine blk_o rfl ?_) | ((with_reducible refine WayR.imp (fun K hK => ?_)); simp (disch := first | omega | (simp only [dls]; omega)) only [std, reduceIte, reduceCtorEq, Int.reduceToNat, Nat.reduceAdd, Nat.reduceSub, Nat.reduceMul, Int.reduceAdd, Int.reduceSub, Int.reduceMul, Int.reduceNeg, fU, h7, show (7 < (osl l).length) from by omega]; subst hK) | refine zcA (haw) rfl rfl rfl ?_)
    exact ⟨_, rfl, rfl⟩
  by_cases h20 : (osl r).length ≤ 20
  rotate_left
  · refine pureC_of (rs := [(RV.tmp 8)]) Tryd.func13 (fun a w => Tryd.call13 a w) body13 cc13 (by kernel_rfl) ?_
    rw [Tryd.ntmps13]
    simp only [frs, Nat.reduceAdd, Nat.reduceSub]
    repeat (first | (with_reducible first | refine Way.imp ?_ | refine blk_o rfl ?_) | ((with_reducible refine WayR.imp (fun K hK => ?_)); simp (disch := first | omega | (simp only [dls]; omega)) only [std, reduceIte, reduceCtorEq, Int.reduceToNat, Nat.reduceAdd, Nat.reduceSub, Nat.reduceMul, Int.reduceAdd, Int.reduceSub, Int.reduceMul, Int.reduceNeg, fU, h7, h20, show ¬ (7 < (osl l).length) from by omega, show (20 < (osl r).length) from by omega]; subst hK) | refine zcA (haw) rfl rfl rfl ?_)
    exact ⟨_, rfl, rfl⟩
  cases c2 : fewB ws with
  | false =>
    rw [c2] at hfw
    refine pureC_of (rs := [(RV.tmp 8)]) Tryd.func13 (fun a w => Tryd.call13 a w) body13 cc13 (by kernel_rfl) ?_
    rw [Tryd.ntmps13]
    simp only [frs, Nat.reduceAdd, Nat.reduceSub]
    repeat (first | (with_reducible first | refine Way.imp ?_ | refine blk_o rfl ?_) | ((with_reducible refine WayR.imp (fun K hK => ?_)); simp (disch := first | omega | (simp only [dls]; omega)) only [std, reduceIte, reduceCtorEq, Int.reduceToNat, Nat.reduceAdd, Nat.reduceSub, Nat.reduceMul, Int.reduceAdd, Int.reduceSub, Int.reduceMul, Int.reduceNeg, fU, h7, h20, show ¬ (7 < (osl l).length) from by omega, show ¬ (20 < (osl r).length) from by omega]; subst hK) | (apply call_any_g (hfw) rfl; (case hg => simp (disch := first | omega | (simp only [dls]; omega)) only [std, reduceIte, reduceCtorEq, Int.reduceToNat, Nat.reduceAdd, Nat.reduceSub, Nat.reduceMul, Int.reduceAdd, Int.reduceSub, Int.reduceMul, Int.reduceNeg, fU, h7, h20, show ¬ (7 < (osl l).length) from by omega, show ¬ (20 < (osl r).length) from by omega]); (case hcl => (simp only [evs, St.ev, constAV, evl]; (repeat (first | exact closeAVs_nil | (apply closeAVs_cons; (first | (refine close_own3 rfl (by decide)) | (refine close_ownO rfl (by decide) ?_; assumption) | rfl)))); done)); (case hu => rfl)) | refine zcA (haw) rfl rfl rfl ?_)
    exact ⟨_, rfl, rfl⟩
  | true =>
  rw [c2] at hfw
  have fw := fewB_fits c2
  have hrow := row_C ws 8 3 fw (by decide) (by decide)
  have hxi := rowD_at ws
  have hxl : (osl (rowO (rowD ws))).length = (osl ws).length := by rw [osl_rowO]; unfold rowD; rw [List.length_map]
  have hb := pbest_C roll l r ws 8 3 fw (by decide) (by decide) (by decide)
  have hp := patterns_C roll l r (by omega)
  have hoa := osl_allV roll l r
  have hplt := pats_lt (roll := roll) (l := l) (r := r)
  have hpl := pats_len roll l r
  generalize rowO (rowD ws) = x at *
  generalize patsL roll l r = P at *
  generalize allV roll l r = W at *
  have hWl : (osl W).length = P.length := by rw [hoa]; unfold natI; rw [List.length_map]
  have hWi : ∀ i (h : i < (osl W).length), (osl W)[i] = ((P[i]'(by rw [← hWl]; exact h) : Nat) : Int) := fun i h => by simp [hoa, natI]
  have hb0 : bestP ws (P.take 0) = (0, 0) := rfl
  have hfB := best_fits fw (by decide) P
  have hIs := is_C (bestP ws P).2 (bestP ws P).2 (hfB.mono (by decide))
  rw [decide_eq_true rfl] at hIs
  generalize hbe : bestP ws P = be at *
  obtain ⟨b9, m9⟩ := be
  dsimp only at hb hIs hfB
  refine pureC_of (rs := [(RV.tmp 8)]) Tryd.func13 (fun a w => Tryd.call13 a w) body13 cc13 (by kernel_rfl) ?_
  rw [Tryd.ntmps13]
  simp only [frs, Nat.reduceAdd, Nat.reduceSub]
  repeat (first | (with_reducible first | refine Way.imp ?_ | refine blk_o rfl ?_) | ((with_reducible refine WayR.imp (fun K hK => ?_)); simp (disch := first | omega | (simp only [dls]; omega)) only [std, reduceIte, reduceCtorEq, Int.reduceToNat, Nat.reduceAdd, Nat.reduceSub, Nat.reduceMul, Int.reduceAdd, Int.reduceSub, Int.reduceMul, Int.reduceNeg, fU, hWl, h7, h20, show ¬ (7 < (osl l).length) from by omega, show ¬ (20 < (osl r).length) from by omega]; subst hK) | (apply call_any_g (hfw) rfl; (case hg => simp (disch := first | omega | (simp only [dls]; omega)) only [std, reduceIte, reduceCtorEq, Int.reduceToNat, Nat.reduceAdd, Nat.reduceSub, Nat.reduceMul, Int.reduceAdd, Int.reduceSub, Int.reduceMul, Int.reduceNeg, fU, hWl, h7, h20, show ¬ (7 < (osl l).length) from by omega, show ¬ (20 < (osl r).length) from by omega]); (case hcl => (simp only [evs, St.ev, constAV, evl]; (repeat (first | exact closeAVs_nil | (apply closeAVs_cons; (first | (refine close_own3 rfl (by decide)) | (refine close_ownO rfl (by decide) ?_; assumption) | rfl)))); done)); (case hu => rfl)) | refine zcA (haw) rfl rfl rfl ?_ | refine zcA (hb) rfl rfl rfl ?_ | refine zcA (hrow) rfl rfl rfl ?_ | refine zcA (hp) rfl rfl rfl ?_)
  refine awp_loop (fun (zz : Nat × Nat × Rat) => ⟨(.junk :: .junk :: .junk :: .junk :: .junk :: .junk :: .junk :: .junk :: .junk :: aI b9 :: .one (.ptr 0 0 0 0) :: aI zz.2.1 :: .one (.ptr 1 0 0 0) :: aD x :: .junk :: .junk :: .junk :: .junk :: .junk :: .junk :: .junk :: .junk :: .junk :: .junk :: .junk :: .junk :: .junk :: .junk :: .junk :: .junk :: .junk :: .junk :: .junk :: .junk :: .junk :: .junk :: .junk :: .junk :: .junk :: .junk :: .junk :: .junk :: .junk :: .junk :: .junk :: aWs W :: aI P.length :: aI zz.1 :: .junk :: .junk :: .junk :: .junk :: .junk :: .junk :: .junk :: .junk :: .junk :: .junk :: .junk :: .junk :: .junk :: .junk :: .junk :: .junk :: .junk :: .junk :: .junk :: .junk :: .junk :: .junk :: .junk :: .junk :: .junk :: .junk :: .junk :: []), [⟨0, 45, 3, [[.c (.val (.bool (rawQ m9).minus)), .c (nr (rawQ m9).size), .c (nr (rawQ m9).den)]], true, true⟩, ⟨0, 28, 2, [[.c (.str (decZ zz.2.2.num)), .c (.str (dec zz.2.2.den))]], true, true⟩]⟩) (fun (zz : Nat × Nat × Rat) => zz.1 ≤ P.length ∧ (zz.2.1, zz.2.2) = bestP ws (P.take zz.1)) (fun (zz : Nat × Nat × Rat) => P.length - zz.1) (0, 0, 0) ?hI1 (Fgt.head (Nat.zero_le 2) (false :: false :: false :: false :: false :: false :: false :: false :: false :: true :: true :: true :: true :: true :: false :: false :: false :: false :: false :: false :: false :: false :: false :: false :: false :: false :: false :: false :: false :: false :: false :: false :: false :: false :: false :: false :: false :: false :: false :: false :: false :: false :: false :: false :: false :: true :: true :: true :: []) ?hT1 ?hH1) ?hB1
  case hT1 => first | (simp (disch := omega) only [hds, liveT, cleanAV, cleanCell, clean1, cleanBlk, reduceIte, Int.reduceSub, Int.reduceAdd, Int.reduceNeg, dec00, dec01]; done) | rfl
  case hH1 => first | (simp (disch := omega) only [hds, liveT, cleanAV, cleanCell, clean1, cleanBlk, reduceIte, Int.reduceSub, Int.reduceAdd, Int.reduceNeg, dec00, dec01]; done) | rfl
  · dsimp only; exact ⟨Nat.zero_le _, hb0.symm⟩
  rintro ⟨i, b, m⟩ ⟨hi, hbm⟩
  dsimp only at hi hbm
  by_cases hie : i = P.length
  · rw [hie, List.take_length, hbe] at hbm
    obtain ⟨rfl, rfl⟩ := Prod.mk.inj hbm
    repeat (first | (with_reducible first | refine Way.imp ?_ | refine blk_o rfl ?_) | ((with_reducible refine WayR.imp (fun K hK => ?_)); simp (disch := first | omega | (simp only [dls]; omega)) only [std, reduceIte, reduceCtorEq, Int.reduceToNat, Nat.reduceAdd, Nat.reduceSub, Nat.reduceMul, Int.reduceAdd, Int.reduceSub, Int.reduceMul, Int.reduceNeg, fU]; subst hK) | (apply call_flat_g (by simp (disch := first | omega | (simp only [dls]; omega)) only [std, reduceIte, reduceCtorEq, Int.reduceToNat, Nat.reduceAdd, Nat.reduceSub, Nat.reduceMul, Int.reduceAdd, Int.reduceSub, Int.reduceMul, Int.reduceNeg, fU]) (hIs) rfl; (case hcl => (simp only [evs, St.ev, constAV, evl]; (repeat (first | exact closeAVs_nil | (apply closeAVs_cons; (first | (refine close_own3 rfl (by decide)) | (refine close_ownO rfl (by decide) ?_; assumption) | rfl)))); done)); (case hf => rfl)) | refine zcA (haw) rfl rfl rfl ?_)
    exact ⟨_, rfl, rfl⟩
  · have hlt : i < P.length := by omega
    have hltW : i < (osl W).length := by omega
    have hPi := hplt _ (List.getElem_mem hlt)
    have hwo := rworth_C ws x P[i] 8 3 hxl hxi fw (by decide) (by decide) (by decide) hPi.1
    have hfm := best_fits fw (by decide) (P.take i)
    rw [← hbm] at hfm
    have hfw2 : FitsQ (worthN ws P[i]) (12 * (3 + 1) + 1) := (fits_worthL fw (by decide) _).mono (by have := Nat.mul_le_mul_right (3 + 1) (items_count P[i]); omega)
    have hcm := qless_C m (worthN ws P[i]) (hfm.mono (by decide)) (hfw2.mono (by decide))
    have hst : bestP ws (P.take (i + 1)) = stepP ws (b, m) P[i] := by rw [List.take_succ_eq_append_getElem hlt, bestP_snoc, ← hbm]
    unfold stepP at hst
    dsimp only at hst
    have hwi := hWi i hltW
    generalize worthN ws P[i] = y at *
    generalize P[i] = s at *
    by_cases hb0 : b = 0
    · rw [if_pos (.inl hb0)] at hst
      repeat (first | (with_reducible first | refine Way.imp ?_ | refine blk_o rfl ?_) | ((with_reducible refine WayR.imp (fun K hK => ?_)); simp (disch := first | omega | (simp only [dls]; omega)) only [std, reduceIte, reduceCtorEq, Int.reduceToNat, Nat.reduceAdd, Nat.reduceSub, Nat.reduceMul, Int.reduceAdd, Int.reduceSub, Int.reduceMul, Int.reduceNeg, fU, fI, fR, fD, hWl, hwi]; subst hK) | refine zcA (hwo) rfl rfl rfl ?_)
      refine ⟨(i + 1, s, y), ?hI2, ?hM2, Fgt.head (Nat.zero_le 2) (false :: false :: false :: false :: false :: false :: false :: false :: false :: true :: true :: true :: true :: true :: false :: false :: false :: false :: false :: false :: false :: false :: false :: false :: false :: false :: false :: false :: false :: false :: false :: false :: false :: false :: false :: false :: false :: false :: false :: false :: false :: false :: false :: false :: false :: true :: true :: true :: []) ?hT2 ?hH2⟩
      case hT2 => first | (simp (disch := omega) only [hds, liveT, cleanAV, cleanCell, clean1, cleanBlk, reduceIte, Int.reduceSub, Int.reduceAdd, Int.reduceNeg]; done) | rfl
      case hH2 => first | (simp (disch := omega) only [hds, liveT, cleanAV, cleanCell, clean1, cleanBlk, reduceIte, Int.reduceSub, Int.reduceAdd, Int.reduceNeg]; done) | rfl
      · dsimp only; exact ⟨hlt, hst.symm⟩
      · dsimp only; omega
    · by_cases hz : m < y
      · rw [if_pos (.inr hz)] at hst
        rw [decide_eq_true hz] at hcm
        repeat (first | (with_reducible first | refine Way.imp ?_ | refine blk_o rfl ?_) | ((with_reducible refine WayR.imp (fun K hK => ?_)); simp (disch := first | omega | (simp only [dls]; omega)) only [std, reduceIte, reduceCtorEq, Int.reduceToNat, Nat.reduceAdd, Nat.reduceSub, Nat.reduceMul, Int.reduceAdd, Int.reduceSub, Int.reduceMul, Int.reduceNeg, fU, fI, fR, fD, hWl, hwi]; subst hK) | refine zcA (hwo) rfl rfl rfl ?_ | (apply call_any_g (hcm) rfl; (case hg => simp (disch := first | omega | (simp only [dls]; omega)) only [std, reduceIte, reduceCtorEq, Int.reduceToNat, Nat.reduceAdd, Nat.reduceSub, Nat.reduceMul, Int.reduceAdd, Int.reduceSub, Int.reduceMul, Int.reduceNeg, fU, fI, fR, fD, hWl, hwi]); (case hcl => (simp only [evs, St.ev, constAV, evl]; (repeat (first | exact closeAVs_nil | (apply closeAVs_cons; (first | (refine close_own3 rfl (by decide)) | (refine close_ownO rfl (by decide) ?_; assumption) | rfl)))); done)); (case hu => rfl)))
        refine ⟨(i + 1, s, y), ?hI3, ?hM3, Fgt.head (Nat.zero_le 2) (false :: false :: false :: false :: false :: false :: false :: false :: false :: true :: true :: true :: true :: true :: false :: false :: false :: false :: false :: false :: false :: false :: false :: false :: false :: false :: false :: false :: false :: false :: false :: false :: false :: false :: false :: false :: false :: false :: false :: false :: false :: false :: false :: false :: false :: true :: true :: true :: []) ?hT3 ?hH3⟩
        case hT3 => first | (simp (disch := omega) only [hds, liveT, cleanAV, cleanCell, clean1, cleanBlk, reduceIte, Int.reduceSub, Int.reduceAdd, Int.reduceNeg]; done) | rfl
        case hH3 => first | (simp (disch := omega) only [hds, liveT, cleanAV, cleanCell, clean1, cleanBlk, reduceIte, Int.reduceSub, Int.reduceAdd, Int.reduceNeg]; done) | rfl
        · dsimp only; exact ⟨hlt, hst.symm⟩
        · dsimp only; omega
      · rw [if_neg (fun h => by rcases h with h | h; exact hb0 h; exact hz h)] at hst
        rw [decide_eq_false hz] at hcm
        repeat (first | (with_reducible first | refine Way.imp ?_ | refine blk_o rfl ?_) | ((with_reducible refine WayR.imp (fun K hK => ?_)); simp (disch := first | omega | (simp only [dls]; omega)) only [std, reduceIte, reduceCtorEq, Int.reduceToNat, Nat.reduceAdd, Nat.reduceSub, Nat.reduceMul, Int.reduceAdd, Int.reduceSub, Int.reduceMul, Int.reduceNeg, fU, fI, fR, fD, hWl, hwi]; subst hK) | refine zcA (hwo) rfl rfl rfl ?_ | (apply call_any_g (hcm) rfl; (case hg => simp (disch := first | omega | (simp only [dls]; omega)) only [std, reduceIte, reduceCtorEq, Int.reduceToNat, Nat.reduceAdd, Nat.reduceSub, Nat.reduceMul, Int.reduceAdd, Int.reduceSub, Int.reduceMul, Int.reduceNeg, fU, fI, fR, fD, hWl, hwi]); (case hcl => (simp only [evs, St.ev, constAV, evl]; (repeat (first | exact closeAVs_nil | (apply closeAVs_cons; (first | (refine close_own3 rfl (by decide)) | (refine close_ownO rfl (by decide) ?_; assumption) | rfl)))); done)); (case hu => rfl)))
        refine ⟨(i + 1, b, m), ?hI4, ?hM4, Fgt.head (Nat.zero_le 2) (false :: false :: false :: false :: false :: false :: false :: false :: false :: true :: true :: true :: true :: true :: false :: false :: false :: false :: false :: false :: false :: false :: false :: false :: false :: false :: false :: false :: false :: false :: false :: false :: false :: false :: false :: false :: false :: false :: false :: false :: false :: false :: false :: false :: false :: true :: true :: true :: []) ?hT4 ?hH4⟩
        case hT4 => first | (simp (disch := omega) only [hds, liveT, cleanAV, cleanCell, clean1, cleanBlk, reduceIte, Int.reduceSub, Int.reduceAdd, Int.reduceNeg]; done) | rfl
        case hH4 => first | (simp (disch := omega) only [hds, liveT, cleanAV, cleanCell, clean1, cleanBlk, reduceIte, Int.reduceSub, Int.reduceAdd, Int.reduceNeg]; done) | rfl
        · dsimp only; exact ⟨hlt, hst.symm⟩
        · dsimp only; omega

end Go.Proofs.YtdhkdnmefeeclaaDoor
