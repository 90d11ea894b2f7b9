/- Walks of pack: Fits; offcutref17: Wide, Fits; pattern: All; offcutlaw18: patterns. -/
import Derived.Test.YtdhkdnmefeeclaaDoorUB
set_option linter.unusedSimpArgs false
set_option linter.unusedVariables false
set_option linter.unnecessarySimpa false
set_option linter.unusedSimpArgs false
set_option linter.unusedVariables false
set_option maxRecDepth 100000
set_option maxHeartbeats 4000000
namespace Go.Proofs.YtdhkdnmefeeclaaDoor
open Go Go.Am Go.Proofs Go.RowKit Go.Off

theorem shl_one : ∀ k, k ≤ 12 → shlI .i64 1 k = ((2 ^ k : Nat) : Int) := by decide
theorem pow_4096 {k : Nat} (h : k ≤ 12) : 2 ^ k ≤ 4096 := Nat.pow_le_pow_right (n := 2) (by decide) h
def fitsB (roll : Int) (l : WI) (set : Int) : Bool := mayB roll l && (decide (0 ≤ set) && (decide (set < ((2 ^ (osl l).length : Nat) : Int)) && decide (wideN l set.toNat ≤ roll)))

abbrev c68 : CC := (.seq (.reg [⟨(some 6), none, (.mv (.const (.bool false)))⟩]) (.seq (.seq (.reg [⟨(some 7), none, (.mv (.tmp 0))⟩, ⟨(some 8), none, (.mv (.tmp 1))⟩, ⟨(some 9), none, (.callf (.func 67) [(.tmp 7), (.tmp 8)])⟩, ⟨(some 10), none, (.un .not (.tmp 9))⟩, ⟨(some 11), none, (.mv (.tmp 10))⟩, ⟨(some 12), (some (11, false)), (.mv (.tmp 2))⟩, ⟨(some 13), (some (11, false)), (.bin .lss (.tmp 12) (.const (.int .i64 (0))))⟩, ⟨(some 14), none, (.pick (.tmp 11) (.const (.bool true)) (.tmp 13))⟩, ⟨(some 15), none, (.mv (.tmp 14))⟩, ⟨(some 16), (some (15, false)), (.mv (.tmp 2))⟩, ⟨(some 17), (some (15, false)), (.mv (.tmp 1))⟩, ⟨(some 18), (some (15, false)), (.len false (.tmp 17))⟩, ⟨(some 19), (some (15, false)), (.bin .shl (.const (.int .i64 (1))) (.tmp 18))⟩, ⟨(some 20), (some (15, false)), (.bin .geq (.tmp 16) (.tmp 19))⟩, ⟨(some 21), none, (.pick (.tmp 15) (.const (.bool true)) (.tmp 20))⟩]) (.cond (.tmp 21) (.seq (.reg [⟨(some 6), none, (.mv (.const (.bool false)))⟩]) .ret) .skip)) (.seq (.reg [⟨(some 22), none, (.mv (.tmp 1))⟩, ⟨(some 23), none, (.mv (.tmp 2))⟩, ⟨(some 24), none, (.callf (.func 97) [(.tmp 22), (.tmp 23)])⟩, ⟨(some 25), none, (.mv (.tmp 0))⟩, ⟨(some 26), none, (.bin .leq (.tmp 24) (.tmp 25))⟩, ⟨(some 6), none, (.mv (.tmp 26))⟩]) .ret)))
theorem cc68 : ccode Tryd.prog [] (Tryd.f68.body.getD .skip) = some c68 := by kernel_rfl
theorem body68 : Tryd.f68.body = some (Tryd.f68.body.getD .skip) := rfl

theorem fits_C (roll : Int) (l : WI) (set : Int) : PureC Tryd.prog 68 [aI roll, aWs l, aI set] (.ret (aB (fitsB roll l set))) := by
  have hm := may_C roll l
  unfold fitsB
  cases c1 : mayB roll l with
  | false =>
    rw [c1] at hm
    rw [Bool.false_and]
    refine pureC_of (rs := [(RV.tmp 6)]) Tryd.func68 (fun a w => Tryd.call68 a w) body68 cc68 (by kernel_rfl) ?_
    rw [Tryd.ntmps68]
    simp only [frs, Nat.reduceAdd, Nat.reduceSub]
    repeat (first | (with_reducible first | refine Way.imp ?_ | refine blk_o rfl ?_) | ((with_reducible refine WayR.imp (fun K hK => ?_)); simp (disch := first | omega | (simp only [dls]; omega)) only [std, reduceIte, reduceCtorEq, Int.reduceToNat, Nat.reduceAdd, Nat.reduceSub, Nat.reduceMul, Int.reduceAdd, Int.reduceSub, Int.reduceMul, Int.reduceNeg, fU]; subst hK) | refine zcA (hm) rfl rfl rfl ?_)
    exact ⟨_, rfl, rfl⟩
  | true =>
  rw [c1] at hm
  rw [Bool.true_and]
  have mo := may_of c1
  have hl := mo.len
  have hsh := shl_one (osl l).length hl
  have hp := pow_4096 hl
  by_cases c2 : 0 ≤ set
  case neg =>
    rw [decide_eq_false c2, Bool.false_and]
    refine pureC_of (rs := [(RV.tmp 6)]) Tryd.func68 (fun a w => Tryd.call68 a w) body68 cc68 (by kernel_rfl) ?_
    rw [Tryd.ntmps68]
    simp only [frs, Nat.reduceAdd, Nat.reduceSub]
    repeat (first | (with_reducible first | refine Way.imp ?_ | refine blk_o rfl ?_) | ((with_reducible refine WayR.imp (fun K hK => ?_)); simp (disch := first | omega | (simp only [dls]; omega)) only [std, reduceIte, reduceCtorEq, Int.reduceToNat, Nat.reduceAdd, Nat.reduceSub, Nat.reduceMul, Int.reduceAdd, Int.reduceSub, Int.reduceMul, Int.reduceNeg, fU]; subst hK) | refine zcA (hm) rfl rfl rfl ?_)
    exact ⟨_, rfl, rfl⟩
  rw [decide_eq_true c2, Bool.true_and]
  obtain ⟨n, hn⟩ : ∃ n : Nat, set = (n : Int) := ⟨set.toNat, by omega⟩
  subst hn
  rw [Int.toNat_natCast]
  by_cases c3 : n < 2 ^ (osl l).length
  · have hw := wide_C roll l n mo c3
    rw [decide_eq_true (show ((n : Nat) : Int) < ((2 ^ (osl l).length : Nat) : Int) by omega), Bool.true_and]
    generalize 2 ^ (osl l).length = p at *
    generalize wideN l n = v at *
    by_cases c4 : v ≤ roll
    · rw [decide_eq_true c4]
      refine pureC_of (rs := [(RV.tmp 6)]) Tryd.func68 (fun a w => Tryd.call68 a w) body68 cc68 (by kernel_rfl) ?_
      rw [Tryd.ntmps68]
      simp only [frs, Nat.reduceAdd, Nat.reduceSub]
      repeat (first | (with_reducible first | refine Way.imp ?_ | refine blk_o rfl ?_) | ((with_reducible refine WayR.imp (fun K hK => ?_)); simp (disch := first | omega | (simp only [dls]; omega)) only [std, reduceIte, reduceCtorEq, Int.reduceToNat, Nat.reduceAdd, Nat.reduceSub, Nat.reduceMul, Int.reduceAdd, Int.reduceSub, Int.reduceMul, Int.reduceNeg, fU, Int.toNat_natCast, hsh]; subst hK) | refine zcA (hm) rfl rfl rfl ?_ | refine zcA (hw) rfl rfl rfl ?_)
      exact ⟨_, rfl, rfl⟩
    · rw [decide_eq_false c4]
      refine pureC_of (rs := [(RV.tmp 6)]) Tryd.func68 (fun a w => Tryd.call68 a w) body68 cc68 (by kernel_rfl) ?_
      rw [Tryd.ntmps68]
      simp only [frs, Nat.reduceAdd, Nat.reduceSub]
      repeat (first | (with_reducible first | refine Way.imp ?_ | refine blk_o rfl ?_) | ((with_reducible refine WayR.imp (fun K hK => ?_)); simp (disch := first | omega | (simp only [dls]; omega)) only [std, reduceIte, reduceCtorEq, Int.reduceToNat, Nat.reduceAdd, Nat.reduceSub, Nat.reduceMul, Int.reduceAdd, Int.reduceSub, Int.reduceMul, Int.reduceNeg, fU, Int.toNat_natCast, hsh]; subst hK) | refine zcA (hm) rfl rfl rfl ?_ | refine zcA (hw) rfl rfl rfl ?_)
      exact ⟨_, rfl, rfl⟩
  · rw [decide_eq_false (show ¬ ((n : Nat) : Int) < ((2 ^ (osl l).length : Nat) : Int) by omega), Bool.false_and]
    generalize 2 ^ (osl l).length = p at *
    refine pureC_of (rs := [(RV.tmp 6)]) Tryd.func68 (fun a w => Tryd.call68 a w) body68 cc68 (by kernel_rfl) ?_
    rw [Tryd.ntmps68]
    simp only [frs, Nat.reduceAdd, Nat.reduceSub]
    repeat (first | (with_reducible first | refine Way.imp ?_ | refine blk_o rfl ?_) | ((with_reducible refine WayR.imp (fun K hK => ?_)); simp (disch := first | omega | (simp only [dls]; omega)) only [std, reduceIte, reduceCtorEq, Int.reduceToNat, Nat.reduceAdd, Nat.reduceSub, Nat.reduceMul, Int.reduceAdd, Int.reduceSub, Int.reduceMul, Int.reduceNeg, fU, Int.toNat_natCast, hsh]; subst hK) | refine zcA (hm) rfl rfl rfl ?_)
    exact ⟨_, rfl, rfl⟩

/-! ### the document's -/

def bitsTo (n k : Nat) : List Nat := (List.range k).filter (bitN n)
theorem bitsTo_succ (n k : Nat) : bitsTo n (k + 1) = bitsTo n k ++ (if bitN n k then [k] else []) := by
  unfold bitsTo
  rw [List.range_succ, List.filter_append]
  cases h : bitN n k <;> simp [h]
theorem bitsTo_items {n m : Nat} (hn : n < 2 ^ m) : ∀ j, m ≤ j → bitsTo n j = bitsTo n m := by
  intro j
  induction j with
  | zero => intro h; obtain rfl : m = 0 := by omega
            rfl
  | succ j ih =>
    intro h
    by_cases e : m = j + 1
    · rw [e]
    · rw [bitsTo_succ, ih (by omega)]
      cases hb : bitN n j with
      | false => simp
      | true => have := bit_lt hn hb; omega
theorem items_to {n m : Nat} (hn : n < 2 ^ m) (hm : m ≤ 12) : itemsL n = bitsTo n m := bitsTo_items hn 12 hm

abbrev c98_k1 : CC := (.seq (.reg [⟨(some 22), none, (.mv (.tmp 5))⟩, ⟨(some 4), none, (.mv (.tmp 22))⟩]) .ret)
abbrev c98_b1 : CC := (.seq (.seq (.reg [⟨(some 7), none, (.mv (.tmp 6))⟩, ⟨(some 8), none, (.mv (.tmp 0))⟩, ⟨(some 9), none, (.len false (.tmp 8))⟩, ⟨(some 10), none, (.bin .lss (.tmp 7) (.tmp 9))⟩]) (.cond (.tmp 10) .skip (.exit 0))) (.seq (.block 1 (.seq (.reg [⟨(some 13), none, (.mv (.tmp 1))⟩, ⟨(some 14), none, (.mv (.tmp 6))⟩, ⟨(some 15), none, (.callf (.func 37) [(.tmp 13), (.tmp 14)])⟩]) (.cond (.tmp 15) (.reg [⟨(some 16), none, (.mv (.tmp 5))⟩, ⟨(some 17), none, (.mv (.tmp 0))⟩, ⟨(some 18), none, (.mv (.tmp 6))⟩, ⟨(some 19), none, (.iaddr 1 none (.tmp 17) (.tmp 18))⟩, ⟨(some 20), none, (.load 1 false (.tmp 19))⟩, ⟨(some 21), none, (.bin .add (.tmp 16) (.tmp 20))⟩, ⟨(some 5), none, (.mv (.tmp 21))⟩]) .skip))) (.reg [⟨(some 11), none, (.mv (.tmp 6))⟩, ⟨(some 12), none, (.bin .add (.tmp 11) (.const (.int .i64 (1))))⟩, ⟨(some 6), none, (.mv (.tmp 12))⟩])))
abbrev c98 : CC := (.seq (.reg [⟨(some 4), none, (.mv (.const (.int .i64 (0))))⟩]) (.seq (.reg [⟨(some 5), none, (.mv (.const (.int .i64 (0))))⟩]) (.seq (.seq (.reg [⟨(some 6), none, (.mv (.const (.int .i64 (0))))⟩]) (.block 0 (.loop c98_b1))) c98_k1)))
theorem cc98 : ccode Tryd.prog [] (Tryd.f98.body.getD .skip) = some c98 := by kernel_rfl
theorem body98 : Tryd.f98.body = some (Tryd.f98.body.getD .skip) := rfl

theorem wide17_C (roll : Int) (l : WI) (n : Nat) (h : MayOk roll l) (hn : n < 2 ^ (osl l).length) : PureC Tryd.prog 98 [aWs l, aI n] (.ret (aI (wideN l n))) := by
  have hl := h.len
  have h4096 : n < 4096 := Nat.lt_of_lt_of_le hn (pow_4096 hl)
  unfold wideN
  rw [items_to hn hl]
  have h0 : wideL l (bitsTo n 0) = 0 := rfl
  have hr := h.rl
  refine pureC_of (rs := [(RV.tmp 4)]) Tryd.func98 (fun a w => Tryd.call98 a w) body98 cc98 (by kernel_rfl) ?_
  rw [Tryd.ntmps98]
  simp only [frs, Nat.reduceAdd, Nat.reduceSub]
  repeat (first | (with_reducible first | refine Way.imp ?_ | refine blk_o rfl ?_) | ((with_reducible refine WayR.imp (fun K hK => ?_)); simp (disch := first | omega | (simp only [dls]; omega)) only [std, reduceIte, reduceCtorEq, Int.reduceToNat, Nat.reduceAdd, Nat.reduceSub, Nat.reduceMul, Int.reduceAdd, Int.reduceSub, Int.reduceMul, Int.reduceNeg, fU]; subst hK))
  refine awp_loop (fun (zz : Nat) => ⟨(aWs l :: aI n :: .junk :: .junk :: .junk :: aI (wideL l (bitsTo n zz)) :: aI zz :: .junk :: .junk :: .junk :: .junk :: .junk :: .junk :: .junk :: .junk :: .junk :: .junk :: .junk :: .junk :: .junk :: .junk :: .junk :: .junk :: []), []⟩) (fun (zz : Nat) => zz ≤ (osl l).length ∧ 0 ≤ wideL l (bitsTo n zz) ∧ wideL l (bitsTo n zz) ≤ (zz : Int) * 1048576) (fun (zz : Nat) => (osl l).length - zz) (0) ?hI1 (Fgt.head (Nat.le_refl _) [true, true, false, false, false, true, true] ?hT1 ?hH1) ?hB1
  case hT1 => first | (simp (disch := omega) only [hds, liveT, cleanAV, cleanCell, clean1, cleanBlk, reduceIte, Int.reduceSub, Int.reduceAdd, Int.reduceNeg, h0]; done) | rfl
  case hH1 => first | (simp (disch := omega) only [hds, liveT, cleanAV, cleanCell, clean1, cleanBlk, reduceIte, Int.reduceSub, Int.reduceAdd, Int.reduceNeg, h0]; done) | rfl
  · exact ⟨Nat.zero_le _, by rw [h0]; omega, by rw [h0]; omega⟩
  rintro k ⟨hk, hw0, hw1⟩
  by_cases hke : k = (osl l).length
  · rw [hke]
    repeat (first | (with_reducible first | refine Way.imp ?_ | refine blk_o rfl ?_) | ((with_reducible refine WayR.imp (fun K hK => ?_)); simp (disch := first | omega | (simp only [dls]; omega)) only [std, reduceIte, reduceCtorEq, Int.reduceToNat, Nat.reduceAdd, Nat.reduceSub, Nat.reduceMul, Int.reduceAdd, Int.reduceSub, Int.reduceMul, Int.reduceNeg, fU]; subst hK))
    exact ⟨_, rfl, rfl⟩
  · have hlt : k < (osl l).length := by omega
    have hin := in_C n k (by omega) (by omega)
    obtain ⟨w1, w2⟩ := h.wid k hlt
    have hs := bitsTo_succ n k
    rw [iAt_in hlt] at w1 w2
    cases hb : bitN n k with
    | true =>
      rw [hb] at hin
      rw [hb, if_pos rfl] at hs
      have hs2 : wideL l (bitsTo n (k + 1)) = wideL l (bitsTo n k) + (osl l)[k] := by rw [hs, wideL_snoc, iAt_in hlt]
      generalize wideL l (bitsTo n k) = v at *
      repeat (first | (with_reducible first | refine Way.imp ?_ | refine blk_o rfl ?_) | ((with_reducible refine WayR.imp (fun K hK => ?_)); simp (disch := first | omega | (simp only [dls]; omega)) only [std, reduceIte, reduceCtorEq, Int.reduceToNat, Nat.reduceAdd, Nat.reduceSub, Nat.reduceMul, Int.reduceAdd, Int.reduceSub, Int.reduceMul, Int.reduceNeg, fU, fI]; subst hK) | refine zcA (hin) rfl rfl rfl ?_)
      refine ⟨(k + 1), ?hI2, ?hM2, Fgt.head (Nat.le_refl _) [true, true, false, false, false, true, true] ?hT2 ?hH2⟩
      case hT2 => first | (simp (disch := omega) only [hds, liveT, cleanAV, cleanCell, clean1, cleanBlk, reduceIte, Int.reduceSub, Int.reduceAdd, Int.reduceNeg, hs2]; done) | rfl
      case hH2 => first | (simp (disch := omega) only [hds, liveT, cleanAV, cleanCell, clean1, cleanBlk, reduceIte, Int.reduceSub, Int.reduceAdd, Int.reduceNeg, hs2]; done) | rfl
      · rw [hs2]; exact ⟨hlt, by omega, by omega⟩
      · show (osl l).length - (k + 1) < (osl l).length - k; omega
    | false =>
      rw [hb] at hin
      rw [hb, if_neg (by simp), List.append_nil] at hs
      have hs2 : wideL l (bitsTo n (k + 1)) = wideL l (bitsTo n k) := by rw [hs]
      generalize wideL l (bitsTo n k) = v at *
      repeat (first | (with_reducible first | refine Way.imp ?_ | refine blk_o rfl ?_) | ((with_reducible refine WayR.imp (fun K hK => ?_)); simp (disch := first | omega | (simp only [dls]; omega)) only [std, reduceIte, reduceCtorEq, Int.reduceToNat, Nat.reduceAdd, Nat.reduceSub, Nat.reduceMul, Int.reduceAdd, Int.reduceSub, Int.reduceMul, Int.reduceNeg, fU, fI]; subst hK) | refine zcA (hin) rfl rfl rfl ?_)
      refine ⟨(k + 1), ?hI3, ?hM3, Fgt.head (Nat.le_refl _) [true, true, false, false, false, true, true] ?hT3 ?hH3⟩
      case hT3 => first | (simp (disch := omega) only [hds, liveT, cleanAV, cleanCell, clean1, cleanBlk, reduceIte, Int.reduceSub, Int.reduceAdd, Int.reduceNeg, hs2]; done) | rfl
      case hH3 => first | (simp (disch := omega) only [hds, liveT, cleanAV, cleanCell, clean1, cleanBlk, reduceIte, Int.reduceSub, Int.reduceAdd, Int.reduceNeg, hs2]; done) | rfl
      · rw [hs2]; exact ⟨hlt, by omega, by omega⟩
      · show (osl l).length - (k + 1) < (osl l).length - k; omega

abbrev c69_k1 : CC := (.seq (.reg [⟨(some 21), none, (.mv (.tmp 0))⟩, ⟨(some 22), none, (.mv (.tmp 1))⟩, ⟨(some 23), none, (.callf (.func 38) [(.tmp 21), (.tmp 22)])⟩, ⟨(some 24), none, (.mv (.tmp 23))⟩, ⟨(some 25), (some (24, true)), (.mv (.tmp 2))⟩, ⟨(some 26), (some (24, true)), (.bin .geq (.tmp 25) (.const (.int .i64 (0))))⟩, ⟨(some 27), none, (.pick (.tmp 24) (.tmp 26) (.const (.bool false)))⟩, ⟨(some 28), none, (.mv (.tmp 27))⟩, ⟨(some 29), (some (28, true)), (.mv (.tmp 2))⟩, ⟨(some 30), (some (28, true)), (.mv (.tmp 7))⟩, ⟨(some 31), (some (28, true)), (.bin .lss (.tmp 29) (.tmp 30))⟩, ⟨(some 32), none, (.pick (.tmp 28) (.tmp 31) (.const (.bool false)))⟩, ⟨(some 33), none, (.mv (.tmp 32))⟩, ⟨(some 34), (some (33, true)), (.mv (.tmp 1))⟩, ⟨(some 35), (some (33, true)), (.mv (.tmp 2))⟩, ⟨(some 36), (some (33, true)), (.callf (.func 98) [(.tmp 34), (.tmp 35)])⟩, ⟨(some 37), (some (33, true)), (.mv (.tmp 0))⟩, ⟨(some 38), (some (33, true)), (.bin .leq (.tmp 36) (.tmp 37))⟩, ⟨(some 39), none, (.pick (.tmp 33) (.tmp 38) (.const (.bool false)))⟩, ⟨(some 6), none, (.mv (.tmp 39))⟩]) .ret)
abbrev c69_b1 : CC := (.seq (.seq (.reg [⟨(some 9), none, (.mv (.tmp 8))⟩, ⟨(some 10), none, (.mv (.tmp 1))⟩, ⟨(some 11), none, (.len false (.tmp 10))⟩, ⟨(some 12), none, (.bin .lss (.tmp 9) (.tmp 11))⟩, ⟨(some 13), none, (.mv (.tmp 12))⟩, ⟨(some 14), (some (13, true)), (.mv (.tmp 8))⟩, ⟨(some 15), (some (13, true)), (.bin .lss (.tmp 14) (.const (.int .i64 (13))))⟩, ⟨(some 16), none, (.pick (.tmp 13) (.tmp 15) (.const (.bool false)))⟩]) (.cond (.tmp 16) .skip (.exit 0))) (.seq (.block 1 (.reg [⟨(some 19), none, (.mv (.tmp 7))⟩, ⟨(some 20), none, (.bin .mul (.tmp 19) (.const (.int .i64 (2))))⟩, ⟨(some 7), none, (.mv (.tmp 20))⟩])) (.reg [⟨(some 17), none, (.mv (.tmp 8))⟩, ⟨(some 18), none, (.bin .add (.tmp 17) (.const (.int .i64 (1))))⟩, ⟨(some 8), none, (.mv (.tmp 18))⟩])))
abbrev c69 : CC := (.seq (.reg [⟨(some 6), none, (.mv (.const (.bool false)))⟩]) (.seq (.reg [⟨(some 7), none, (.mv (.const (.int .i64 (1))))⟩]) (.seq (.seq (.reg [⟨(some 8), none, (.mv (.const (.int .i64 (0))))⟩]) (.block 0 (.loop c69_b1))) c69_k1)))
theorem cc69 : ccode Tryd.prog [] (Tryd.f69.body.getD .skip) = some c69 := by kernel_rfl
theorem body69 : Tryd.f69.body = some (Tryd.f69.body.getD .skip) := rfl

theorem fits17_C (roll : Int) (l : WI) (set : Int) (hl12 : (osl l).length ≤ 12) : PureC Tryd.prog 69 [aI roll, aWs l, aI set] (.ret (aB (fitsB roll l set))) := by
  have hm := may17_C roll l
  have hp := pow_4096 hl12
  unfold fitsB
  refine pureC_of (rs := [(RV.tmp 6)]) Tryd.func69 (fun a w => Tryd.call69 a w) body69 cc69 (by kernel_rfl) ?_
  rw [Tryd.ntmps69]
  simp only [frs, Nat.reduceAdd, Nat.reduceSub]
  repeat (first | (with_reducible first | refine Way.imp ?_ | refine blk_o rfl ?_) | ((with_reducible refine WayR.imp (fun K hK => ?_)); simp (disch := first | omega | (simp only [dls]; omega)) only [std, reduceIte, reduceCtorEq, Int.reduceToNat, Nat.reduceAdd, Nat.reduceSub, Nat.reduceMul, Int.reduceAdd, Int.reduceSub, Int.reduceMul, Int.reduceNeg, fU]; subst hK))
  refine awp_loop (fun (zz : Nat × Nat) => ⟨(aI roll :: aWs l :: aI set :: .junk :: .junk :: .junk :: .junk :: aI zz.2 :: aI zz.1 :: .junk :: .junk :: .junk :: .junk :: .junk :: .junk :: .junk :: .junk :: .junk :: .junk :: .junk :: .junk :: .junk :: .junk :: .junk :: .junk :: .junk :: .junk :: .junk :: .junk :: .junk :: .junk :: .junk :: .junk :: .junk :: .junk :: .junk :: .junk :: .junk :: .junk :: .junk :: []), []⟩) (fun (zz : Nat × Nat) => zz.1 ≤ (osl l).length ∧ zz.2 = 2 ^ zz.1 ∧ zz.2 ≤ 4096) (fun (zz : Nat × Nat) => (osl l).length - zz.1) (0, 1) ?hI4 (Fgt.head (Nat.le_refl _) [true, true, true, false, false, false, false, true, true] ?hT4 ?hH4) ?hB4
  case hT4 => first | (simp (disch := omega) only [hds, liveT, cleanAV, cleanCell, clean1, cleanBlk, reduceIte, Int.reduceSub, Int.reduceAdd, Int.reduceNeg]; done) | rfl
  case hH4 => first | (simp (disch := omega) only [hds, liveT, cleanAV, cleanCell, clean1, cleanBlk, reduceIte, Int.reduceSub, Int.reduceAdd, Int.reduceNeg]; done) | rfl
  · dsimp only; exact ⟨Nat.zero_le _, rfl, by decide⟩
  rintro ⟨k, top⟩ ⟨hk, ht, ht2⟩
  dsimp only at hk ht ht2
  by_cases hke : k = (osl l).length
  case neg =>
    have hlt : k < (osl l).length := by omega
    have h2 : top * 2 = 2 ^ (k + 1) := by rw [Nat.pow_succ, ht]
    have h3 : top * 2 ≤ 4096 := by rw [h2]; exact pow_4096 (by omega)
    repeat (first | (with_reducible first | refine Way.imp ?_ | refine blk_o rfl ?_) | ((with_reducible refine WayR.imp (fun K hK => ?_)); simp (disch := first | omega | (simp only [dls]; omega)) only [std, reduceIte, reduceCtorEq, Int.reduceToNat, Nat.reduceAdd, Nat.reduceSub, Nat.reduceMul, Int.reduceAdd, Int.reduceSub, Int.reduceMul, Int.reduceNeg, fU]; subst hK))
    refine ⟨(k + 1, top * 2), ?hI5, ?hM5, Fgt.head (Nat.le_refl _) [true, true, true, false, false, false, false, true, true] ?hT5 ?hH5⟩
    case hT5 => first | (simp (disch := omega) only [hds, liveT, cleanAV, cleanCell, clean1, cleanBlk, reduceIte, Int.reduceSub, Int.reduceAdd, Int.reduceNeg]; done) | rfl
    case hH5 => first | (simp (disch := omega) only [hds, liveT, cleanAV, cleanCell, clean1, cleanBlk, reduceIte, Int.reduceSub, Int.reduceAdd, Int.reduceNeg]; done) | rfl
    · dsimp only; exact ⟨hlt, h2, h3⟩
    · dsimp only; omega
  rw [hke] at ht
  rw [← ht]
  cases c1 : mayB roll l with
  | false =>
    rw [c1] at hm
    rw [Bool.false_and]
    repeat (first | (with_reducible first | refine Way.imp ?_ | refine blk_o rfl ?_) | ((with_reducible refine WayR.imp (fun K hK => ?_)); simp (disch := first | omega | (simp only [dls]; omega)) only [std, reduceIte, reduceCtorEq, Int.reduceToNat, Nat.reduceAdd, Nat.reduceSub, Nat.reduceMul, Int.reduceAdd, Int.reduceSub, Int.reduceMul, Int.reduceNeg, fU]; subst hK) | refine zcA (hm) rfl rfl rfl ?_)
    exact ⟨_, rfl, rfl⟩
  | true =>
  rw [c1] at hm
  rw [Bool.true_and]
  have mo := may_of c1
  by_cases c2 : 0 ≤ set
  case neg =>
    rw [decide_eq_false c2, Bool.false_and]
    repeat (first | (with_reducible first | refine Way.imp ?_ | refine blk_o rfl ?_) | ((with_reducible refine WayR.imp (fun K hK => ?_)); simp (disch := first | omega | (simp only [dls]; omega)) only [std, reduceIte, reduceCtorEq, Int.reduceToNat, Nat.reduceAdd, Nat.reduceSub, Nat.reduceMul, Int.reduceAdd, Int.reduceSub, Int.reduceMul, Int.reduceNeg, fU]; subst hK) | refine zcA (hm) rfl rfl rfl ?_)
    exact ⟨_, rfl, rfl⟩
  rw [decide_eq_true c2, Bool.true_and]
  obtain ⟨n, hn⟩ : ∃ n : Nat, set = (n : Int) := ⟨set.toNat, by omega⟩
  subst hn
  rw [Int.toNat_natCast]
  by_cases c3 : n < top
  · have hw := wide17_C roll l n mo (by rw [← ht]; exact c3)
    rw [decide_eq_true (show ((n : Nat) : Int) < ((top : Nat) : Int) by omega), Bool.true_and]
    generalize wideN l n = v at *
    by_cases c4 : v ≤ roll
    · rw [decide_eq_true c4]
      repeat (first | (with_reducible first | refine Way.imp ?_ | refine blk_o rfl ?_) | ((with_reducible refine WayR.imp (fun K hK => ?_)); simp (disch := first | omega | (simp only [dls]; omega)) only [std, reduceIte, reduceCtorEq, Int.reduceToNat, Nat.reduceAdd, Nat.reduceSub, Nat.reduceMul, Int.reduceAdd, Int.reduceSub, Int.reduceMul, Int.reduceNeg, fU]; subst hK) | refine zcA (hm) rfl rfl rfl ?_ | (apply call_any_g (hw) rfl; (case hg => simp (disch := first | omega | (simp only [dls]; omega)) only [std, reduceIte, reduceCtorEq, Int.reduceToNat, Nat.reduceAdd, Nat.reduceSub, Nat.reduceMul, Int.reduceAdd, Int.reduceSub, Int.reduceMul, Int.reduceNeg, fU]); (case hcl => (simp only [evs, St.ev, constAV, evl]; (repeat (first | exact closeAVs_nil | (apply closeAVs_cons; (first | (refine close_own3 rfl (by decide)) | (refine close_ownO rfl (by decide) ?_; assumption) | rfl)))); done)); (case hu => rfl)))
      exact ⟨_, rfl, rfl⟩
    · rw [decide_eq_false c4]
      repeat (first | (with_reducible first | refine Way.imp ?_ | refine blk_o rfl ?_) | ((with_reducible refine WayR.imp (fun K hK => ?_)); simp (disch := first | omega | (simp only [dls]; omega)) only [std, reduceIte, reduceCtorEq, Int.reduceToNat, Nat.reduceAdd, Nat.reduceSub, Nat.reduceMul, Int.reduceAdd, Int.reduceSub, Int.reduceMul, Int.reduceNeg, fU]; subst hK) | refine zcA (hm) rfl rfl rfl ?_ | (apply call_any_g (hw) rfl; (case hg => simp (disch := first | omega | (simp only [dls]; omega)) only [std, reduceIte, reduceCtorEq, Int.reduceToNat, Nat.reduceAdd, Nat.reduceSub, Nat.reduceMul, Int.reduceAdd, Int.reduceSub, Int.reduceMul, Int.reduceNeg, fU]); (case hcl => (simp only [evs, St.ev, constAV, evl]; (repeat (first | exact closeAVs_nil | (apply closeAVs_cons; (first | (refine close_own3 rfl (by decide)) | (refine close_ownO rfl (by decide) ?_; assumption) | rfl)))); done)); (case hu => rfl)))
      exact ⟨_, rfl, rfl⟩
  · rw [decide_eq_false (show ¬ ((n : Nat) : Int) < ((top : Nat) : Int) by omega), Bool.false_and]
    repeat (first | (with_reducible first | refine Way.imp ?_ | refine blk_o rfl ?_) | ((with_reducible refine WayR.imp (fun K hK => ?_)); simp (disch := first | omega | (simp only [dls]; omega)) only [std, reduceIte, reduceCtorEq, Int.reduceToNat, Nat.reduceAdd, Nat.reduceSub, Nat.reduceMul, Int.reduceAdd, Int.reduceSub, Int.reduceMul, Int.reduceNeg, fU]; subst hK) | refine zcA (hm) rfl rfl rfl ?_)
    exact ⟨_, rfl, rfl⟩

/-! ### all patterns -/

def isPat (roll : Int) (l : WI) (r : RL) (s : Nat) : Bool := decide (0 < s) && (keepsB r s && fitsB roll l s)
def patTo (roll : Int) (l : WI) (r : RL) (k : Nat) : List Nat := (List.range k).filter (isPat roll l r)
def patL (roll : Int) (l : WI) (r : RL) : List Nat := patTo roll l r (2 ^ (osl l).length)
def natI (l : List Nat) : List Int := l.map Int.ofNat
def allV (roll : Int) (l : WI) (r : RL) : WI := if mayB roll l then rowO (natI (patL roll l r)) else none
theorem patTo_succ (roll : Int) (l : WI) (r : RL) (k : Nat) : patTo roll l r (k + 1) = patTo roll l r k ++ (if isPat roll l r k then [k] else []) := by
  unfold patTo
  rw [List.range_succ, List.filter_append]
  cases h : isPat roll l r k <;> simp [h]
theorem patTo_len (roll : Int) (l : WI) (r : RL) (k : Nat) : (patTo roll l r k).length ≤ k := by
  have := List.length_filter_le (isPat roll l r) (List.range k)
  rwa [List.length_range] at this

abbrev c35_k1 : CC := (.seq (.reg [⟨(some 37), none, (.mv (.tmp 7))⟩, ⟨(some 6), none, (.mv (.tmp 37))⟩]) .ret)
abbrev c35_b1 : CC := (.seq (.reg [⟨(some 17), none, (.bin .lss (.tmp 16) (.tmp 15))⟩]) (.seq (.cond (.tmp 17) .skip (.exit 0)) (.seq (.block 1 (.seq (.reg [⟨(some 18), none, (.mv (.tmp 16))⟩, ⟨(some 8), none, (.mv (.tmp 18))⟩]) (.seq (.reg [⟨(some 19), none, (.mv (.tmp 8))⟩, ⟨(some 20), none, (.bin .gtr (.tmp 19) (.const (.int .i64 (0))))⟩, ⟨(some 21), none, (.mv (.tmp 20))⟩, ⟨(some 22), (some (21, true)), (.mv (.tmp 2))⟩, ⟨(some 23), (some (21, true)), (.mv (.tmp 8))⟩, ⟨(some 24), (some (21, true)), (.callf (.func 33) [(.tmp 22), (.tmp 23)])⟩, ⟨(some 25), none, (.pick (.tmp 21) (.tmp 24) (.const (.bool false)))⟩, ⟨(some 26), none, (.mv (.tmp 25))⟩, ⟨(some 27), (some (26, true)), (.mv (.tmp 0))⟩, ⟨(some 28), (some (26, true)), (.mv (.tmp 1))⟩, ⟨(some 29), (some (26, true)), (.mv (.tmp 8))⟩, ⟨(some 30), (some (26, true)), (.callf (.func 68) [(.tmp 27), (.tmp 28), (.tmp 29)])⟩, ⟨(some 31), none, (.pick (.tmp 26) (.tmp 30) (.const (.bool false)))⟩]) (.cond (.tmp 31) (.reg [⟨(some 32), none, (.mv (.tmp 7))⟩, ⟨(some 33), none, (.mv (.tmp 8))⟩, ⟨(some 34), none, (.mkrow 3 1 [(.tmp 33)])⟩, ⟨(some 35), none, (.append 3 1 8 (.tmp 32) (.tmp 34))⟩, ⟨(some 7), none, (.mv (.tmp 35))⟩]) .skip)))) (.reg [⟨(some 36), none, (.bin .add (.tmp 16) (.const (.int .i64 (1))))⟩, ⟨(some 16), none, (.mv (.tmp 36))⟩]))))
abbrev c35 : CC := (.seq (.reg [⟨(some 6), none, (.mv (.const (.slice none 0 0)))⟩]) (.seq (.seq (.reg [⟨(some 9), none, (.mv (.tmp 0))⟩, ⟨(some 10), none, (.mv (.tmp 1))⟩, ⟨(some 11), none, (.callf (.func 67) [(.tmp 9), (.tmp 10)])⟩, ⟨(some 12), none, (.un .not (.tmp 11))⟩]) (.cond (.tmp 12) (.seq (.reg [⟨(some 6), none, (.mv (.const (.slice none 0 0)))⟩]) .ret) .skip)) (.seq (.reg [⟨(some 7), none, (.mv (.const (.slice none 0 0)))⟩]) (.seq (.seq (.reg [⟨(some 13), none, (.mv (.tmp 1))⟩, ⟨(some 14), none, (.len false (.tmp 13))⟩, ⟨(some 15), none, (.bin .shl (.const (.int .i64 (1))) (.tmp 14))⟩, ⟨(some 16), none, (.mv (.const (.int .i64 (0))))⟩]) (.block 0 (.loop c35_b1))) c35_k1))))
theorem cc35 : ccode Tryd.prog [] (Tryd.f35.body.getD .skip) = some c35 := by kernel_rfl
theorem body35 : Tryd.f35.body = some (Tryd.f35.body.getD .skip) := rfl

theorem all_C (roll : Int) (l : WI) (r : RL) : PureC Tryd.prog 35 [aI roll, aWs l, aRl r] (.ret (aWs (allV roll l r))) := by
  have hm := may_C roll l
  unfold allV
  cases c1 : mayB roll l with
  | false =>
    rw [c1] at hm
    rw [if_neg (by simp)]
    refine pureC_of (rs := [(RV.tmp 6)]) Tryd.func35 (fun a w => Tryd.call35 a w) body35 cc35 (by kernel_rfl) ?_
    rw [Tryd.ntmps35]
    simp only [frs, Nat.reduceAdd, Nat.reduceSub]
    repeat (first | (with_reducible first | refine Way.imp ?_ | refine blk_o rfl ?_) | ((with_reducible refine WayR.imp (fun K hK => ?_)); simp (disch := first | omega | (simp only [dls]; omega)) only [std, reduceIte, reduceCtorEq, Int.reduceToNat, Nat.reduceAdd, Nat.reduceSub, Nat.reduceMul, Int.reduceAdd, Int.reduceSub, Int.reduceMul, Int.reduceNeg, fU]; subst hK) | refine zcA (hm) rfl rfl rfl ?_)
    exact ⟨_, rfl, rfl⟩
  | true =>
  rw [c1] at hm
  rw [if_pos rfl]
  have mo := may_of c1
  have hl := mo.len
  have hsh := shl_one (osl l).length hl
  have hp := pow_4096 hl
  refine PureC.fresh_rowO (ty := 3) (e := 1) ?_
  unfold patL
  generalize 2 ^ (osl l).length = top at *
  have hz : natI (patTo roll l r 0) = [] := rfl
  refine pureC_of (rs := [(RV.tmp 6)]) Tryd.func35 (fun a w => Tryd.call35 a w) body35 cc35 (by kernel_rfl) ?_
  rw [Tryd.ntmps35]
  simp only [frs, Nat.reduceAdd, Nat.reduceSub]
  repeat (first | (with_reducible first | refine Way.imp ?_ | refine blk_o rfl ?_) | ((with_reducible refine WayR.imp (fun K hK => ?_)); simp (disch := first | omega | (simp only [dls]; omega)) only [std, reduceIte, reduceCtorEq, Int.reduceToNat, Nat.reduceAdd, Nat.reduceSub, Nat.reduceMul, Int.reduceAdd, Int.reduceSub, Int.reduceMul, Int.reduceNeg, fU, Int.toNat_natCast, hsh]; subst hK) | refine zcA (hm) rfl rfl rfl ?_)
  refine AWp.fgt ?_ (Fgt.openNil (i := 7) rfl 3 1)
  simp only [List.set_cons_succ, List.set_cons_zero, List.length_nil, List.length_cons, List.nil_append, List.cons_append, Nat.reduceAdd]
  refine awp_loop (fun (zz : Nat × (List Int) × Nat × Bool) => ⟨(aI roll :: aWs l :: aRl r :: .junk :: .junk :: .junk :: .junk :: .one (.own 0 zz.2.2.1) :: .junk :: .junk :: .junk :: .junk :: .junk :: .junk :: .junk :: aI top :: aI zz.1 :: .junk :: .junk :: .junk :: .junk :: .junk :: .junk :: .junk :: .junk :: .junk :: .junk :: .junk :: .junk :: .junk :: .junk :: .junk :: .junk :: .junk :: .junk :: .junk :: .junk :: .junk :: []), [⟨zz.2.2.1, 3, 1, encB fI zz.2.1, true, zz.2.2.2⟩]⟩) (fun (zz : Nat × (List Int) × Nat × Bool) => zz.1 ≤ top ∧ zz.2.1 = natI (patTo roll l r zz.1) ∧ zz.2.2.2 = !zz.2.1.isEmpty) (fun (zz : Nat × (List Int) × Nat × Bool) => top - zz.1) (0, [], 0, false) ?hI6 (Fgt.head (Nat.zero_le 1) [true, true, true, false, false, false, false, true, false, false, false, false, false, false, false, true, true] ?hT6 ?hH6) ?hB6
  case hT6 => first | (simp (disch := omega) only [hds, liveT, cleanAV, cleanCell, clean1, cleanBlk, reduceIte, Int.reduceSub, Int.reduceAdd, Int.reduceNeg]; done) | rfl
  case hH6 => first | (simp (disch := omega) only [hds, liveT, cleanAV, cleanCell, clean1, cleanBlk, reduceIte, Int.reduceSub, Int.reduceAdd, Int.reduceNeg]; done) | rfl
  · dsimp only; exact ⟨Nat.zero_le _, rfl, rfl⟩
  rintro ⟨s, out, v, nn⟩ ⟨hs, ho, hnn⟩
  dsimp only at hs ho hnn
  by_cases hse : s = top
  · repeat (first | (with_reducible first | refine Way.imp ?_ | refine blk_o rfl ?_) | ((with_reducible refine WayR.imp (fun K hK => ?_)); simp (disch := first | omega | (simp only [dls]; omega)) only [std, reduceIte, reduceCtorEq, Int.reduceToNat, Nat.reduceAdd, Nat.reduceSub, Nat.reduceMul, Int.reduceAdd, Int.reduceSub, Int.reduceMul, Int.reduceNeg, fU]; subst hK))
    refine ⟨_, rfl, ?_⟩
    rw [hse] at ho
    rw [hnn, ho]
    exact Ends.fresh_enc rfl
  · have hlt : s < top := by omega
    have hk := keeps_C r s (by omega)
    have hf := fits_C roll l s
    have hsu := patTo_succ roll l r s
    have hol : out.length ≤ 4096 := by rw [ho]; unfold natI; rw [List.length_map]; have := patTo_len roll l r s; omega
    have eA : encB fI out ++ [[Cell.c (.val (.int .i64 ((s : Nat) : Int)))]] = encB fI (out ++ [((s : Nat) : Int)]) := by rw [← encB_append]; rfl
    by_cases h0 : 0 < s
    case neg =>
      have hno : isPat roll l r s = false := by unfold isPat; rw [decide_eq_false h0]; rfl
      rw [hno, if_neg (by simp), List.append_nil] at hsu
      repeat (first | (with_reducible first | refine Way.imp ?_ | refine blk_o rfl ?_) | ((with_reducible refine WayR.imp (fun K hK => ?_)); simp (disch := first | omega | (simp only [dls]; omega)) only [std, reduceIte, reduceCtorEq, Int.reduceToNat, Nat.reduceAdd, Nat.reduceSub, Nat.reduceMul, Int.reduceAdd, Int.reduceSub, Int.reduceMul, Int.reduceNeg, fU]; subst hK))
      refine ⟨(s + 1, out, v, nn), ?hI7, ?hM7, Fgt.head (Nat.zero_le 1) [true, true, true, false, false, false, false, true, false, false, false, false, false, false, false, true, true] ?hT7 ?hH7⟩
      case hT7 => first | (simp (disch := omega) only [hds, liveT, cleanAV, cleanCell, clean1, cleanBlk, reduceIte, Int.reduceSub, Int.reduceAdd, Int.reduceNeg]; done) | rfl
      case hH7 => first | (simp (disch := omega) only [hds, liveT, cleanAV, cleanCell, clean1, cleanBlk, reduceIte, Int.reduceSub, Int.reduceAdd, Int.reduceNeg]; done) | rfl
      · dsimp only; exact ⟨hlt, by rw [hsu]; exact ho, hnn⟩
      · dsimp only; omega
    cases ck : keepsB r s with
    | false =>
      rw [ck] at hk
      have hno : isPat roll l r s = false := by unfold isPat; rw [ck, Bool.false_and, Bool.and_false]
      rw [hno, if_neg (by simp), List.append_nil] at hsu
      repeat (first | (with_reducible first | refine Way.imp ?_ | refine blk_o rfl ?_) | ((with_reducible refine WayR.imp (fun K hK => ?_)); simp (disch := first | omega | (simp only [dls]; omega)) only [std, reduceIte, reduceCtorEq, Int.reduceToNat, Nat.reduceAdd, Nat.reduceSub, Nat.reduceMul, Int.reduceAdd, Int.reduceSub, Int.reduceMul, Int.reduceNeg, fU]; subst hK) | (apply call_any_g (hk) rfl; (case hg => simp (disch := first | omega | (simp only [dls]; omega)) only [std, reduceIte, reduceCtorEq, Int.reduceToNat, Nat.reduceAdd, Nat.reduceSub, Nat.reduceMul, Int.reduceAdd, Int.reduceSub, Int.reduceMul, Int.reduceNeg, fU]); (case hcl => (simp only [evs, St.ev, constAV, evl]; (repeat (first | exact closeAVs_nil | (apply closeAVs_cons; (first | (refine close_own3 rfl (by decide)) | (refine close_ownO rfl (by decide) ?_; assumption) | rfl)))); done)); (case hu => rfl)))
      refine ⟨(s + 1, out, v, nn), ?hI8, ?hM8, Fgt.head (Nat.zero_le 1) [true, true, true, false, false, false, false, true, false, false, false, false, false, false, false, true, true] ?hT8 ?hH8⟩
      case hT8 => first | (simp (disch := omega) only [hds, liveT, cleanAV, cleanCell, clean1, cleanBlk, reduceIte, Int.reduceSub, Int.reduceAdd, Int.reduceNeg]; done) | rfl
      case hH8 => first | (simp (disch := omega) only [hds, liveT, cleanAV, cleanCell, clean1, cleanBlk, reduceIte, Int.reduceSub, Int.reduceAdd, Int.reduceNeg]; done) | rfl
      · dsimp only; exact ⟨hlt, by rw [hsu]; exact ho, hnn⟩
      · dsimp only; omega
    | true =>
    rw [ck] at hk
    cases cf : fitsB roll l s with
    | false =>
      rw [cf] at hf
      have hno : isPat roll l r s = false := by unfold isPat; rw [cf, Bool.and_false, Bool.and_false]
      rw [hno, if_neg (by simp), List.append_nil] at hsu
      repeat (first | (with_reducible first | refine Way.imp ?_ | refine blk_o rfl ?_) | ((with_reducible refine WayR.imp (fun K hK => ?_)); simp (disch := first | omega | (simp only [dls]; omega)) only [std, reduceIte, reduceCtorEq, Int.reduceToNat, Nat.reduceAdd, Nat.reduceSub, Nat.reduceMul, Int.reduceAdd, Int.reduceSub, Int.reduceMul, Int.reduceNeg, fU]; subst hK) | (apply call_any_g (hk) rfl; (case hg => simp (disch := first | omega | (simp only [dls]; omega)) only [std, reduceIte, reduceCtorEq, Int.reduceToNat, Nat.reduceAdd, Nat.reduceSub, Nat.reduceMul, Int.reduceAdd, Int.reduceSub, Int.reduceMul, Int.reduceNeg, fU]); (case hcl => (simp only [evs, St.ev, constAV, evl]; (repeat (first | exact closeAVs_nil | (apply closeAVs_cons; (first | (refine close_own3 rfl (by decide)) | (refine close_ownO rfl (by decide) ?_; assumption) | rfl)))); done)); (case hu => rfl)) | (apply call_any_g (hf) rfl; (case hg => simp (disch := first | omega | (simp only [dls]; omega)) only [std, reduceIte, reduceCtorEq, Int.reduceToNat, Nat.reduceAdd, Nat.reduceSub, Nat.reduceMul, Int.reduceAdd, Int.reduceSub, Int.reduceMul, Int.reduceNeg, fU]); (case hcl => (simp only [evs, St.ev, constAV, evl]; (repeat (first | exact closeAVs_nil | (apply closeAVs_cons; (first | (refine close_own3 rfl (by decide)) | (refine close_ownO rfl (by decide) ?_; assumption) | rfl)))); done)); (case hu => rfl)))
      refine ⟨(s + 1, out, v, nn), ?hI9, ?hM9, Fgt.head (Nat.zero_le 1) [true, true, true, false, false, false, false, true, false, false, false, false, false, false, false, true, true] ?hT9 ?hH9⟩
      case hT9 => first | (simp (disch := omega) only [hds, liveT, cleanAV, cleanCell, clean1, cleanBlk, reduceIte, Int.reduceSub, Int.reduceAdd, Int.reduceNeg]; done) | rfl
      case hH9 => first | (simp (disch := omega) only [hds, liveT, cleanAV, cleanCell, clean1, cleanBlk, reduceIte, Int.reduceSub, Int.reduceAdd, Int.reduceNeg]; done) | rfl
      · dsimp only; exact ⟨hlt, by rw [hsu]; exact ho, hnn⟩
      · dsimp only; omega
    | true =>
      rw [cf] at hf
      have hyes : isPat roll l r s = true := by unfold isPat; rw [ck, cf, decide_eq_true h0]; rfl
      rw [hyes, if_pos rfl] at hsu
      repeat (first | (with_reducible first | refine Way.imp ?_ | refine blk_o rfl ?_) | ((with_reducible refine WayR.imp (fun K hK => ?_)); simp (disch := first | omega | (simp only [dls]; omega)) only [std, reduceIte, reduceCtorEq, Int.reduceToNat, Nat.reduceAdd, Nat.reduceSub, Nat.reduceMul, Int.reduceAdd, Int.reduceSub, Int.reduceMul, Int.reduceNeg, fU]; subst hK) | (apply call_any_g (hk) rfl; (case hg => simp (disch := first | omega | (simp only [dls]; omega)) only [std, reduceIte, reduceCtorEq, Int.reduceToNat, Nat.reduceAdd, Nat.reduceSub, Nat.reduceMul, Int.reduceAdd, Int.reduceSub, Int.reduceMul, Int.reduceNeg, fU]); (case hcl => (simp only [evs, St.ev, constAV, evl]; (repeat (first | exact closeAVs_nil | (apply closeAVs_cons; (first | (refine close_own3 rfl (by decide)) | (refine close_ownO rfl (by decide) ?_; assumption) | rfl)))); done)); (case hu => rfl)) | (apply call_any_g (hf) rfl; (case hg => simp (disch := first | omega | (simp only [dls]; omega)) only [std, reduceIte, reduceCtorEq, Int.reduceToNat, Nat.reduceAdd, Nat.reduceSub, Nat.reduceMul, Int.reduceAdd, Int.reduceSub, Int.reduceMul, Int.reduceNeg, fU]); (case hcl => (simp only [evs, St.ev, constAV, evl]; (repeat (first | exact closeAVs_nil | (apply closeAVs_cons; (first | (refine close_own3 rfl (by decide)) | (refine close_ownO rfl (by decide) ?_; assumption) | rfl)))); done)); (case hu => rfl)))
      refine ⟨(s + 1, out ++ [((s : Nat) : Int)], v + 1, true), ?hI10, ?hM10, Fgt.head (Nat.zero_le 1) [true, true, true, false, false, false, false, true, false, false, false, false, false, false, false, true, true] ?hT10 ?hH10⟩
      case hT10 => first | (simp (disch := omega) only [hds, liveT, cleanAV, cleanCell, clean1, cleanBlk, reduceIte, Int.reduceSub, Int.reduceAdd, Int.reduceNeg, eA, List.isEmpty_cons, Bool.or_true, Bool.not_false]; done) | rfl
      case hH10 => first | (simp (disch := omega) only [hds, liveT, cleanAV, cleanCell, clean1, cleanBlk, reduceIte, Int.reduceSub, Int.reduceAdd, Int.reduceNeg, eA, List.isEmpty_cons, Bool.or_true, Bool.not_false]; done) | rfl
      · dsimp only; exact ⟨hlt, by rw [hsu, ho]; unfold natI; rw [List.map_append]; rfl, by cases out <;> rfl⟩
      · dsimp only; omega

theorem keeps_of (r : RL) (s : Int) : keepsB (rowO (osl r)) s = keepsB r s := by
  unfold keepsB rightRl rlBad okL rlAt
  simp only [osl_rowO]

abbrev c36_k1 : CC := (.seq (.reg [⟨(some 35), none, (.mv (.tmp 7))⟩, ⟨(some 6), none, (.mv (.tmp 35))⟩]) .ret)
abbrev c36_b1 : CC := (.seq (.seq (.reg [⟨(some 13), none, (.mv (.tmp 8))⟩, ⟨(some 14), none, (.mv (.tmp 1))⟩, ⟨(some 15), none, (.len false (.tmp 14))⟩, ⟨(some 16), none, (.mm false (.tmp 15) (.const (.int .i64 (12))))⟩, ⟨(some 17), none, (.bin .shl (.const (.int .i64 (1))) (.tmp 16))⟩, ⟨(some 18), none, (.bin .lss (.tmp 13) (.tmp 17))⟩]) (.cond (.tmp 18) .skip (.exit 0))) (.seq (.block 1 (.seq (.reg [⟨(some 21), none, (.mv (.tmp 2))⟩, ⟨(some 22), none, (.callf (.func 32) [(.tmp 21)])⟩, ⟨(some 23), none, (.mv (.tmp 8))⟩, ⟨(some 24), none, (.callf (.func 34) [(.tmp 22), (.tmp 23)])⟩, ⟨(some 25), none, (.mv (.tmp 24))⟩, ⟨(some 26), (some (25, true)), (.mv (.tmp 0))⟩, ⟨(some 27), (some (25, true)), (.mv (.tmp 1))⟩, ⟨(some 28), (some (25, true)), (.mv (.tmp 8))⟩, ⟨(some 29), (some (25, true)), (.callf (.func 69) [(.tmp 26), (.tmp 27), (.tmp 28)])⟩, ⟨(some 30), none, (.pick (.tmp 25) (.tmp 29) (.const (.bool false)))⟩]) (.cond (.tmp 30) (.reg [⟨(some 31), none, (.mv (.tmp 7))⟩, ⟨(some 32), none, (.mv (.tmp 8))⟩, ⟨(some 33), none, (.mkrow 3 1 [(.tmp 32)])⟩, ⟨(some 34), none, (.append 3 1 8 (.tmp 31) (.tmp 33))⟩, ⟨(some 7), none, (.mv (.tmp 34))⟩]) .skip))) (.reg [⟨(some 19), none, (.mv (.tmp 8))⟩, ⟨(some 20), none, (.bin .add (.tmp 19) (.const (.int .i64 (1))))⟩, ⟨(some 8), none, (.mv (.tmp 20))⟩])))
abbrev c36 : CC := (.seq (.reg [⟨(some 6), none, (.mv (.const (.slice none 0 0)))⟩]) (.seq (.reg [⟨(some 7), none, (.mv (.const (.slice none 0 0)))⟩]) (.seq (.seq (.reg [⟨(some 9), none, (.mv (.tmp 0))⟩, ⟨(some 10), none, (.mv (.tmp 1))⟩, ⟨(some 11), none, (.callf (.func 38) [(.tmp 9), (.tmp 10)])⟩, ⟨(some 12), none, (.un .not (.tmp 11))⟩]) (.cond (.tmp 12) (.seq (.reg [⟨(some 6), none, (.mv (.const (.slice none 0 0)))⟩]) .ret) .skip)) (.seq (.seq (.reg [⟨(some 8), none, (.mv (.const (.int .i64 (1))))⟩]) (.block 0 (.loop c36_b1))) c36_k1))))
theorem cc36 : ccode Tryd.prog [] (Tryd.f36.body.getD .skip) = some c36 := by kernel_rfl
theorem body36 : Tryd.f36.body = some (Tryd.f36.body.getD .skip) := rfl

theorem patterns_C (roll : Int) (l : WI) (r : RL) (hr : (osl r).length ≤ 1000000) : PureC Tryd.prog 36 [aI roll, aWs l, aRl r] (.ret (aWs (allV roll l r))) := by
  have hm := may17_C roll l
  have hof := lof18_C r hr
  unfold allV
  cases c1 : mayB roll l with
  | false =>
    rw [c1] at hm
    rw [if_neg (by simp)]
    refine pureC_of (rs := [(RV.tmp 6)]) Tryd.func36 (fun a w => Tryd.call36 a w) body36 cc36 (by kernel_rfl) ?_
    rw [Tryd.ntmps36]
    simp only [frs, Nat.reduceAdd, Nat.reduceSub]
    repeat (first | (with_reducible first | refine Way.imp ?_ | refine blk_o rfl ?_) | ((with_reducible refine WayR.imp (fun K hK => ?_)); simp (disch := first | omega | (simp only [dls]; omega)) only [std, reduceIte, reduceCtorEq, Int.reduceToNat, Nat.reduceAdd, Nat.reduceSub, Nat.reduceMul, Int.reduceAdd, Int.reduceSub, Int.reduceMul, Int.reduceNeg, fU]; subst hK) | refine zcA (hm) rfl rfl rfl ?_)
    exact ⟨_, rfl, rfl⟩
  | true =>
  rw [c1] at hm
  rw [if_pos rfl]
  have mo := may_of c1
  have hl := mo.len
  have hsh := shl_one (osl l).length hl
  have hp := pow_4096 hl
  have hpp : 0 < 2 ^ (osl l).length := Nat.pow_pos (by decide)
  have hmin : (if (12 : Int) < ((osl l).length : Int) then (12 : Int) else ((osl l).length : Int)) = ((osl l).length : Int) := if_neg (by omega)
  refine PureC.fresh_rowO (ty := 3) (e := 1) ?_
  unfold patL
  generalize 2 ^ (osl l).length = top at *
  have hz : natI (patTo roll l r 1) = [] := rfl
  have ho2 : ∀ s : Int, keepsB (rowO (osl r)) s = keepsB r s := keeps_of r
  have hor : (osl (rowO (osl r))).length ≤ 1000000 := by rw [osl_rowO]; exact hr
  generalize hR : rowO (osl r) = R at *
  refine pureC_of (rs := [(RV.tmp 6)]) Tryd.func36 (fun a w => Tryd.call36 a w) body36 cc36 (by kernel_rfl) ?_
  rw [Tryd.ntmps36]
  simp only [frs, Nat.reduceAdd, Nat.reduceSub]
  repeat (first | (with_reducible first | refine Way.imp ?_ | refine blk_o rfl ?_) | ((with_reducible refine WayR.imp (fun K hK => ?_)); simp (disch := first | omega | (simp only [dls]; omega)) only [std, reduceIte, reduceCtorEq, Int.reduceToNat, Nat.reduceAdd, Nat.reduceSub, Nat.reduceMul, Int.reduceAdd, Int.reduceSub, Int.reduceMul, Int.reduceNeg, fU]; subst hK) | refine zcA (hm) rfl rfl rfl ?_)
  refine AWp.fgt ?_ (Fgt.openNil (i := 7) rfl 3 1)
  simp only [List.set_cons_succ, List.set_cons_zero, List.length_nil, List.length_cons, List.nil_append, List.cons_append, Nat.reduceAdd]
  refine awp_loop (fun (zz : Nat × (List Int) × Nat × Bool) => ⟨(aI roll :: aWs l :: aRl r :: .junk :: .junk :: .junk :: .junk :: .one (.own 0 zz.2.2.1) :: aI zz.1 :: .junk :: .junk :: .junk :: .junk :: .junk :: .junk :: .junk :: .junk :: .junk :: .junk :: .junk :: .junk :: .junk :: .junk :: .junk :: .junk :: .junk :: .junk :: .junk :: .junk :: .junk :: .junk :: .junk :: .junk :: .junk :: .junk :: .junk :: []), [⟨zz.2.2.1, 3, 1, encB fI zz.2.1, true, zz.2.2.2⟩]⟩) (fun (zz : Nat × (List Int) × Nat × Bool) => zz.1 ≤ top ∧ 0 < zz.1 ∧ zz.2.1 = natI (patTo roll l r zz.1) ∧ zz.2.2.2 = !zz.2.1.isEmpty) (fun (zz : Nat × (List Int) × Nat × Bool) => top - zz.1) (1, [], 0, false) ?hI11 (Fgt.head (Nat.zero_le 1) [true, true, true, false, false, false, false, true, true] ?hT11 ?hH11) ?hB11
  case hT11 => first | (simp (disch := omega) only [hds, liveT, cleanAV, cleanCell, clean1, cleanBlk, reduceIte, Int.reduceSub, Int.reduceAdd, Int.reduceNeg]; done) | rfl
  case hH11 => first | (simp (disch := omega) only [hds, liveT, cleanAV, cleanCell, clean1, cleanBlk, reduceIte, Int.reduceSub, Int.reduceAdd, Int.reduceNeg]; done) | rfl
  · dsimp only; exact ⟨hpp, by decide, hz.symm, rfl⟩
  rintro ⟨s, out, v, nn⟩ ⟨hs, h0, ho, hnn⟩
  dsimp only at hs h0 ho hnn
  by_cases hse : s = top
  · repeat (first | (with_reducible first | refine Way.imp ?_ | refine blk_o rfl ?_) | ((with_reducible refine WayR.imp (fun K hK => ?_)); simp (disch := first | omega | (simp only [dls]; omega)) only [std, reduceIte, reduceCtorEq, Int.reduceToNat, Nat.reduceAdd, Nat.reduceSub, Nat.reduceMul, Int.reduceAdd, Int.reduceSub, Int.reduceMul, Int.reduceNeg, fU, Int.toNat_natCast, hsh, hmin]; subst hK))
    refine ⟨_, rfl, ?_⟩
    rw [hse] at ho
    rw [hnn, ho]
    exact Ends.fresh_enc rfl
  · have hlt : s < top := by omega
    have hk := keeps18_C R s (by omega) hor
    rw [ho2] at hk
    have hf := fits17_C roll l s hl
    have hsu := patTo_succ roll l r s
    have hol : out.length ≤ 4096 := by rw [ho]; unfold natI; rw [List.length_map]; have := patTo_len roll l r s; omega
    have eA : encB fI out ++ [[Cell.c (.val (.int .i64 ((s : Nat) : Int)))]] = encB fI (out ++ [((s : Nat) : Int)]) := by rw [← encB_append]; rfl
    cases ck : keepsB r s with
    | false =>
      rw [ck] at hk
      have hno : isPat roll l r s = false := by unfold isPat; rw [ck, Bool.false_and, Bool.and_false]
      rw [hno, if_neg (by simp), List.append_nil] at hsu
      repeat (first | (with_reducible first | refine Way.imp ?_ | refine blk_o rfl ?_) | ((with_reducible refine WayR.imp (fun K hK => ?_)); simp (disch := first | omega | (simp only [dls]; omega)) only [std, reduceIte, reduceCtorEq, Int.reduceToNat, Nat.reduceAdd, Nat.reduceSub, Nat.reduceMul, Int.reduceAdd, Int.reduceSub, Int.reduceMul, Int.reduceNeg, fU, Int.toNat_natCast, hsh, hmin]; subst hK) | refine zcA (hof) rfl rfl rfl ?_ | refine zcA (hk) rfl rfl rfl ?_)
      refine ⟨(s + 1, out, v, nn), ?hI12, ?hM12, Fgt.head (Nat.zero_le 1) [true, true, true, false, false, false, false, true, true] ?hT12 ?hH12⟩
      case hT12 => first | (simp (disch := omega) only [hds, liveT, cleanAV, cleanCell, clean1, cleanBlk, reduceIte, Int.reduceSub, Int.reduceAdd, Int.reduceNeg]; done) | rfl
      case hH12 => first | (simp (disch := omega) only [hds, liveT, cleanAV, cleanCell, clean1, cleanBlk, reduceIte, Int.reduceSub, Int.reduceAdd, Int.reduceNeg]; done) | rfl
      · dsimp only; exact ⟨hlt, by omega, by rw [hsu]; exact ho, hnn⟩
      · dsimp only; omega
    | true =>
    rw [ck] at hk
    cases cf : fitsB roll l s with
    | false =>
      rw [cf] at hf
      have hno : isPat roll l r s = false := by unfold isPat; rw [cf, Bool.and_false, Bool.and_false]
      rw [hno, if_neg (by simp), List.append_nil] at hsu
      repeat (first | (with_reducible first | refine Way.imp ?_ | refine blk_o rfl ?_) | ((with_reducible refine WayR.imp (fun K hK => ?_)); simp (disch := first | omega | (simp only [dls]; omega)) only [std, reduceIte, reduceCtorEq, Int.reduceToNat, Nat.reduceAdd, Nat.reduceSub, Nat.reduceMul, Int.reduceAdd, Int.reduceSub, Int.reduceMul, Int.reduceNeg, fU, Int.toNat_natCast, hsh, hmin]; subst hK) | refine zcA (hof) rfl rfl rfl ?_ | refine zcA (hk) rfl rfl rfl ?_ | (apply call_any_g (hf) rfl; (case hg => simp (disch := first | omega | (simp only [dls]; omega)) only [std, reduceIte, reduceCtorEq, Int.reduceToNat, Nat.reduceAdd, Nat.reduceSub, Nat.reduceMul, Int.reduceAdd, Int.reduceSub, Int.reduceMul, Int.reduceNeg, fU, Int.toNat_natCast, hsh, hmin]); (case hcl => (simp only [evs, St.ev, constAV, evl]; (repeat (first | exact closeAVs_nil | (apply closeAVs_cons; (first | (refine close_own3 rfl (by decide)) | (refine close_ownO rfl (by decide) ?_; assumption) | rfl)))); done)); (case hu => rfl)))
      refine ⟨(s + 1, out, v, nn), ?hI13, ?hM13, Fgt.head (Nat.zero_le 1) [true, true, true, false, false, false, false, true, true] ?hT13 ?hH13⟩
      case hT13 => first | (simp (disch := omega) only [hds, liveT, cleanAV, cleanCell, clean1, cleanBlk, reduceIte, Int.reduceSub, Int.reduceAdd, Int.reduceNeg]; done) | rfl
      case hH13 => first | (simp (disch := omega) only [hds, liveT, cleanAV, cleanCell, clean1, cleanBlk, reduceIte, Int.reduceSub, Int.reduceAdd, Int.reduceNeg]; done) | rfl
      · dsimp only; exact ⟨hlt, by omega, by rw [hsu]; exact ho, hnn⟩
      · dsimp only; omega
    | true =>
      rw [cf] at hf
      have hyes : isPat roll l r s = true := by unfold isPat; rw [ck, cf, decide_eq_true h0]; rfl
      rw [hyes, if_pos rfl] at hsu
      repeat (first | (with_reducible first | refine Way.imp ?_ | refine blk_o rfl ?_) | ((with_reducible refine WayR.imp (fun K hK => ?_)); simp (disch := first | omega | (simp only [dls]; omega)) only [std, reduceIte, reduceCtorEq, Int.reduceToNat, Nat.reduceAdd, Nat.reduceSub, Nat.reduceMul, Int.reduceAdd, Int.reduceSub, Int.reduceMul, Int.reduceNeg, fU, Int.toNat_natCast, hsh, hmin]; subst hK) | refine zcA (hof) rfl rfl rfl ?_ | refine zcA (hk) rfl rfl rfl ?_ | (apply call_any_g (hf) rfl; (case hg => simp (disch := first | omega | (simp only [dls]; omega)) only [std, reduceIte, reduceCtorEq, Int.reduceToNat, Nat.reduceAdd, Nat.reduceSub, Nat.reduceMul, Int.reduceAdd, Int.reduceSub, Int.reduceMul, Int.reduceNeg, fU, Int.toNat_natCast, hsh, hmin]); (case hcl => (simp only [evs, St.ev, constAV, evl]; (repeat (first | exact closeAVs_nil | (apply closeAVs_cons; (first | (refine close_own3 rfl (by decide)) | (refine close_ownO rfl (by decide) ?_; assumption) | rfl)))); done)); (case hu => rfl)))
      refine ⟨(s + 1, out ++ [((s : Nat) : Int)], v + 1, true), ?hI14, ?hM14, Fgt.head (Nat.zero_le 1) [true, true, true, false, false, false, false, true, true] ?hT14 ?hH14⟩
      case hT14 => first | (simp (disch := omega) only [hds, liveT, cleanAV, cleanCell, clean1, cleanBlk, reduceIte, Int.reduceSub, Int.reduceAdd, Int.reduceNeg, eA, List.isEmpty_cons, Bool.or_true, Bool.not_false]; done) | rfl
      case hH14 => first | (simp (disch := omega) only [hds, liveT, cleanAV, cleanCell, clean1, cleanBlk, reduceIte, Int.reduceSub, Int.reduceAdd, Int.reduceNeg, eA, List.isEmpty_cons, Bool.or_true, Bool.not_false]; done) | rfl
      · dsimp only; exact ⟨hlt, by omega, by rw [hsu, ho]; unfold natI; rw [List.map_append]; rfl, by cases out <;> rfl⟩
      · dsimp only; omega

end Go.Proofs.YtdhkdnmefeeclaaDoor
