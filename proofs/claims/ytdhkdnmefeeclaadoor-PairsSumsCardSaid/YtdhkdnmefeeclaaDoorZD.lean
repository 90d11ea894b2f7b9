/- Walks of layer 19: Split. -/
import Derived.Test.YtdhkdnmefeeclaaDoorVD
import Derived.Test.YtdhkdnmefeeclaaDoorZC
set_option linter.unusedSimpArgs false
set_option linter.unusedVariables false
set_option linter.unnecessarySimpa false
set_option linter.unusedSimpArgs false
set_option linter.unusedVariables false
set_option maxRecDepth 100000
set_option maxHeartbeats 4000000
namespace Go.Proofs.YtdhkdnmefeeclaaDoor
open Go Go.Am Go.Proofs Go.RowKit Go.Off

/-- Are two items neither together nor apart? -/
def splB (l : PL) (a b : Nat) : Bool := decide (0 < togTo l a b (osl l).length) && decide (togTo l a b (osl l).length < 1)
def rowP (l : PL) (a b : Nat) : Bool := decide (a < b) && splB l a b
def rowHas (l : PL) (m a : Nat) : Bool := anyI (rowP l a) m
def splitV (l : PL) (m : Nat) : Int × Int × Bool :=
  if anyI (rowHas l m) m then (fstI (rowHas l m) m, fstI (rowP l (fstI (rowHas l m) m).toNat) m, true) else (0, 0, false)
theorem anyI_true {p : Nat → Bool} {n k : Nat} (hk : k < n) (h : p k = true) : anyI p n = true := by
  unfold anyI
  rw [List.any_eq_true]
  exact ⟨k, List.mem_range.2 hk, h⟩
theorem splitV_none {l : PL} {m : Nat} (h : anyI (rowHas l m) m = false) : splitV l m = (0, 0, false) := by unfold splitV; rw [h]; rfl
theorem splitV_some {l : PL} {m a b : Nat} (ha : a < m) (hb : b < m) (h1 : anyI (rowHas l m) a = false) (h2 : anyI (rowP l a) b = false) (h3 : rowP l a b = true) : splitV l m = ((a : Int), (b : Int), true) := by
  have hr : rowHas l m a = true := anyI_true hb h3
  have e := fstI_some ha h1 hr
  unfold splitV
  rw [anyI_true ha hr, if_pos rfl, e, Int.toNat_natCast, fstI_some hb h2 h3]

abbrev c16_k1 : CC := (.seq (.reg [⟨(some 4), none, (.mv (.const (.int .i64 (0))))⟩, ⟨(some 5), none, (.mv (.const (.int .i64 (0))))⟩, ⟨(some 6), none, (.mv (.const (.bool false)))⟩]) .ret)
abbrev c16_k2 : CC := (.reg [⟨(some 15), none, (.mv (.tmp 7))⟩, ⟨(some 16), none, (.bin .add (.tmp 15) (.const (.int .i64 (1))))⟩, ⟨(some 7), none, (.mv (.tmp 16))⟩])
abbrev c16_b1 : CC := (.seq (.seq (.reg [⟨(some 19), none, (.mv (.tmp 8))⟩, ⟨(some 20), none, (.mv (.tmp 1))⟩, ⟨(some 21), none, (.bin .lss (.tmp 19) (.tmp 20))⟩]) (.cond (.tmp 21) .skip (.exit 2))) (.seq (.block 3 (.seq (.reg [⟨(some 24), none, (.mv (.tmp 0))⟩, ⟨(some 25), none, (.mv (.tmp 7))⟩, ⟨(some 26), none, (.mv (.tmp 8))⟩, ⟨(some 27), none, (.callf (.func 24) [(.tmp 24), (.tmp 25), (.tmp 26)])⟩, ⟨(some 9), none, (.new 45 [(.bool false), (.slice none 0 0), (.slice none 0 0)])⟩, ⟨none, none, (.store 3 (.tmp 9) (.tmp 27))⟩]) (.seq (.reg [⟨(some 28), none, (.load 3 true (.tmp 9))⟩, ⟨(some 29), none, (.callf (.func 49) [(.tmp 28)])⟩, ⟨(some 30), none, (.bin .gtr (.tmp 29) (.const (.int .i64 (0))))⟩, ⟨(some 31), none, (.mv (.tmp 30))⟩, ⟨(some 32), (some (31, true)), (.load 3 true (.tmp 9))⟩, ⟨(some 33), (some (31, true)), (.callf (.func 26) [(.const (.int .i64 (1)))])⟩, ⟨(some 34), (some (31, true)), (.callf (.func 25) [(.tmp 32), (.tmp 33)])⟩, ⟨(some 35), (some (31, true)), (.bin .lss (.tmp 34) (.const (.int .i64 (0))))⟩, ⟨(some 36), none, (.pick (.tmp 31) (.tmp 35) (.const (.bool false)))⟩]) (.cond (.tmp 36) (.seq (.reg [⟨(some 37), none, (.mv (.tmp 7))⟩, ⟨(some 38), none, (.mv (.tmp 8))⟩, ⟨(some 4), none, (.mv (.tmp 37))⟩, ⟨(some 5), none, (.mv (.tmp 38))⟩, ⟨(some 6), none, (.mv (.const (.bool true)))⟩]) .ret) .skip)))) (.reg [⟨(some 22), none, (.mv (.tmp 8))⟩, ⟨(some 23), none, (.bin .add (.tmp 22) (.const (.int .i64 (1))))⟩, ⟨(some 8), none, (.mv (.tmp 23))⟩])))
abbrev c16_b2 : CC := (.seq (.seq (.reg [⟨(some 12), none, (.mv (.tmp 7))⟩, ⟨(some 13), none, (.mv (.tmp 1))⟩, ⟨(some 14), none, (.bin .lss (.tmp 12) (.tmp 13))⟩]) (.cond (.tmp 14) .skip (.exit 0))) (.seq (.block 1 (.seq (.reg [⟨(some 17), none, (.mv (.tmp 7))⟩, ⟨(some 18), none, (.bin .add (.tmp 17) (.const (.int .i64 (1))))⟩, ⟨(some 8), none, (.mv (.tmp 18))⟩]) (.block 2 (.loop c16_b1)))) c16_k2))
abbrev c16 : CC := (.seq (.reg [⟨(some 4), none, (.mv (.const (.int .i64 (0))))⟩, ⟨(some 5), none, (.mv (.const (.int .i64 (0))))⟩, ⟨(some 6), none, (.mv (.const (.bool false)))⟩]) (.seq (.reg [⟨(some 10), none, (.mv (.tmp 1))⟩, ⟨(some 11), none, (.mm false (.tmp 10) (.const (.int .i64 (12))))⟩, ⟨(some 1), none, (.mv (.tmp 11))⟩]) (.seq (.seq (.reg [⟨(some 7), none, (.mv (.const (.int .i64 (0))))⟩]) (.block 0 (.loop c16_b2))) c16_k1)))
theorem cc16 : ccode Tryd.prog [] (Tryd.f16.body.getD .skip) = some c16 := by kernel_rfl
theorem body16 : Tryd.f16.body = some (Tryd.f16.body.getD .skip) := rfl

theorem psplit_C (l : PL) (n : Int) (hn : -9223372036854775808 ≤ n ∧ n ≤ 9223372036854775807) (N L : Nat) (hd : DomP l N L) (hN : N ≤ 1000) (hL : 1 ≤ L) (hL2 : L ≤ 1000) : PureC Tryd.prog 16 [aPl l, aI n] (.ret (.tup [aI (splitV l (min n.toNat 12)).1, aI (splitV l (min n.toNat 12)).2.1, aB (splitV l (min n.toNat 12)).2.2])) := by
  have h1 := rint_C 1 (by omega) (by omega)
  rw [show ((1 : Int) : Rat) = 1 from rfl] at h1
  have hf1 : Fits (rawQ 1) 2 := fits_rawQ (fits_int 1 (by decide) (by decide))
  by_cases hn0 : n < 0
  · rw [show min n.toNat 12 = 0 by omega, splitV_none (by rfl)]
    refine pureC_of (rs := [(RV.tmp 4), (RV.tmp 5), (RV.tmp 6)]) Tryd.func16 (fun a w => Tryd.call16 a w) body16 cc16 (by kernel_rfl) ?_
    rw [Tryd.ntmps16]
    simp only [frs, Nat.reduceAdd, Nat.reduceSub]
    repeat (first | (with_reducible first | refine Way.imp ?_ | refine blk_o rfl ?_) | ((with_reducible refine WayR.imp (fun K hK => ?_)); simp (disch := first | omega | (simp only [dls]; omega)) only [std, reduceIte, reduceCtorEq, Int.reduceToNat, Nat.reduceAdd, Nat.reduceSub, Nat.reduceMul, Int.reduceAdd, Int.reduceSub, Int.reduceMul, Int.reduceNeg, fU, show ¬ (12 < n) from by omega, show ¬ ((12 : Int) < n) from by omega]; subst hK))
    refine awp_loop (fun (zz : Nat) => ⟨(aPl l :: aI n :: .junk :: .junk :: .junk :: .junk :: .junk :: aI zz :: .junk :: .junk :: .junk :: .junk :: .junk :: .junk :: .junk :: .junk :: .junk :: .junk :: .junk :: .junk :: .junk :: .junk :: .junk :: .junk :: .junk :: .junk :: .junk :: .junk :: .junk :: .junk :: .junk :: .junk :: .junk :: .junk :: .junk :: .junk :: .junk :: .junk :: .junk :: []), []⟩) (fun (zz : Nat) => zz = 0) (fun (zz : Nat) => 0) (0) ?hI1 (Fgt.head (Nat.le_refl _) [true, true, false, false, false, false, false, true] ?hT1 ?hH1) ?hB1
    case hT1 => first | (simp (disch := omega) only [hds, liveT, cleanAV, cleanCell, clean1, cleanBlk, reduceIte, Int.reduceSub, Int.reduceAdd, Int.reduceNeg]; done) | rfl
    case hH1 => first | (simp (disch := omega) only [hds, liveT, cleanAV, cleanCell, clean1, cleanBlk, reduceIte, Int.reduceSub, Int.reduceAdd, Int.reduceNeg]; done) | rfl
    · rfl
    rintro a rfl
    repeat (first | (with_reducible first | refine Way.imp ?_ | refine blk_o rfl ?_) | ((with_reducible refine WayR.imp (fun K hK => ?_)); simp (disch := first | omega | (simp only [dls]; omega)) only [std, reduceIte, reduceCtorEq, Int.reduceToNat, Nat.reduceAdd, Nat.reduceSub, Nat.reduceMul, Int.reduceAdd, Int.reduceSub, Int.reduceMul, Int.reduceNeg, fU]; subst hK))
    exact ⟨_, rfl, rfl⟩
  obtain ⟨x, rfl⟩ : ∃ x : Nat, n = (x : Int) := ⟨n.toNat, by omega⟩
  rw [Int.toNat_natCast]
  have hmm : (if (12 : Int) < (x : Int) then (12 : Int) else (x : Int)) = ((min x 12 : Nat) : Int) := by split <;> omega
  have hm12 : min x 12 ≤ 12 := by omega
  generalize min x 12 = m at *
  refine pureC_of (rs := [(RV.tmp 4), (RV.tmp 5), (RV.tmp 6)]) Tryd.func16 (fun a w => Tryd.call16 a w) body16 cc16 (by kernel_rfl) ?_
  rw [Tryd.ntmps16]
  simp only [frs, Nat.reduceAdd, Nat.reduceSub]
  repeat (first | (with_reducible first | refine Way.imp ?_ | refine blk_o rfl ?_) | ((with_reducible refine WayR.imp (fun K hK => ?_)); simp (disch := first | omega | (simp only [dls]; omega)) only [std, reduceIte, reduceCtorEq, Int.reduceToNat, Nat.reduceAdd, Nat.reduceSub, Nat.reduceMul, Int.reduceAdd, Int.reduceSub, Int.reduceMul, Int.reduceNeg, fU, hmm]; subst hK))
  refine awp_loop (fun (zz : Nat) => ⟨(aPl l :: aI m :: .junk :: .junk :: .junk :: .junk :: .junk :: aI zz :: .junk :: .junk :: .junk :: .junk :: .junk :: .junk :: .junk :: .junk :: .junk :: .junk :: .junk :: .junk :: .junk :: .junk :: .junk :: .junk :: .junk :: .junk :: .junk :: .junk :: .junk :: .junk :: .junk :: .junk :: .junk :: .junk :: .junk :: .junk :: .junk :: .junk :: .junk :: []), []⟩) (fun (zz : Nat) => zz ≤ m ∧ anyI (rowHas l m) zz = false) (fun (zz : Nat) => m - zz) (0) ?hI2 (Fgt.head (Nat.le_refl _) [true, true, false, false, false, false, false, true] ?hT2 ?hH2) ?hB2
  case hT2 => first | (simp (disch := omega) only [hds, liveT, cleanAV, cleanCell, clean1, cleanBlk, reduceIte, Int.reduceSub, Int.reduceAdd, Int.reduceNeg]; done) | rfl
  case hH2 => first | (simp (disch := omega) only [hds, liveT, cleanAV, cleanCell, clean1, cleanBlk, reduceIte, Int.reduceSub, Int.reduceAdd, Int.reduceNeg]; done) | rfl
  · exact ⟨Nat.zero_le _, rfl⟩
  rintro a ⟨ha, hany⟩
  by_cases hae : a = m
  · subst hae
    rw [splitV_none hany]
    repeat (first | (with_reducible first | refine Way.imp ?_ | refine blk_o rfl ?_) | ((with_reducible refine WayR.imp (fun K hK => ?_)); simp (disch := first | omega | (simp only [dls]; omega)) only [std, reduceIte, reduceCtorEq, Int.reduceToNat, Nat.reduceAdd, Nat.reduceSub, Nat.reduceMul, Int.reduceAdd, Int.reduceSub, Int.reduceMul, Int.reduceNeg, fU]; subst hK))
    exact ⟨_, rfl, rfl⟩
  · have halt : a < m := by omega
    have hstep := anyI_succ (rowHas l m) a
    rw [hany, Bool.false_or] at hstep
    repeat (first | (with_reducible first | refine Way.imp ?_ | refine blk_o rfl ?_) | ((with_reducible refine WayR.imp (fun K hK => ?_)); simp (disch := first | omega | (simp only [dls]; omega)) only [std, reduceIte, reduceCtorEq, Int.reduceToNat, Nat.reduceAdd, Nat.reduceSub, Nat.reduceMul, Int.reduceAdd, Int.reduceSub, Int.reduceMul, Int.reduceNeg, fU]; subst hK))
    refine awp_loop (fun (zz : Nat) => ⟨(aPl l :: aI m :: .junk :: .junk :: .junk :: .junk :: .junk :: aI a :: aI zz :: .junk :: .junk :: .junk :: .junk :: .junk :: .junk :: .junk :: .junk :: .junk :: .junk :: .junk :: .junk :: .junk :: .junk :: .junk :: .junk :: .junk :: .junk :: .junk :: .junk :: .junk :: .junk :: .junk :: .junk :: .junk :: .junk :: .junk :: .junk :: .junk :: .junk :: []), []⟩) (fun (zz : Nat) => a + 1 ≤ zz ∧ zz ≤ m ∧ anyI (rowP l a) zz = false) (fun (zz : Nat) => m - zz) (a + 1) ?hI3 (Fgt.head (Nat.le_refl _) [true, true, false, false, false, false, false, true, true] ?hT3 ?hH3) ?hB3
    case hT3 => first | (simp (disch := omega) only [hds, liveT, cleanAV, cleanCell, clean1, cleanBlk, reduceIte, Int.reduceSub, Int.reduceAdd, Int.reduceNeg]; done) | rfl
    case hH3 => first | (simp (disch := omega) only [hds, liveT, cleanAV, cleanCell, clean1, cleanBlk, reduceIte, Int.reduceSub, Int.reduceAdd, Int.reduceNeg]; done) | rfl
    · refine ⟨Nat.le_refl _, by omega, anyI_of (fun i hi => ?_)⟩
      unfold rowP
      rw [decide_eq_false (by omega)]; rfl
    rintro b ⟨hb0, hb, hanyb⟩
    by_cases hbe : b = m
    · subst hbe
      repeat (first | (with_reducible first | refine Way.imp ?_ | refine blk_o rfl ?_) | ((with_reducible refine WayR.imp (fun K hK => ?_)); simp (disch := first | omega | (simp only [dls]; omega)) only [std, reduceIte, reduceCtorEq, Int.reduceToNat, Nat.reduceAdd, Nat.reduceSub, Nat.reduceMul, Int.reduceAdd, Int.reduceSub, Int.reduceMul, Int.reduceNeg, fU]; subst hK))
      refine ⟨(a + 1), ?hI4, ?hM4, Fgt.head (Nat.le_refl _) [true, true, false, false, false, false, false, true] ?hT4 ?hH4⟩
      case hT4 => first | (simp (disch := omega) only [hds, liveT, cleanAV, cleanCell, clean1, cleanBlk, reduceIte, Int.reduceSub, Int.reduceAdd, Int.reduceNeg]; done) | rfl
      case hH4 => first | (simp (disch := omega) only [hds, liveT, cleanAV, cleanCell, clean1, cleanBlk, reduceIte, Int.reduceSub, Int.reduceAdd, Int.reduceNeg]; done) | rfl
      · exact ⟨halt, by rw [hstep]; exact hanyb⟩
      · show b - (a + 1) < b - a; omega
    · have hblt : b < m := by omega
      have ht := ptog_C l a b N L hd hN hL hL2
      have hft := fits_togQ hd hN hL hL2 a b
      rw [togQ_in l (by omega) (by omega)] at ht hft
      have hsb : rowP l a b = (decide (0 < togTo l a b (osl l).length) && decide (togTo l a b (osl l).length < 1)) := by unfold rowP splB; rw [decide_eq_true (by omega), Bool.true_and]
      have hstepb := anyI_succ (rowP l a) b
      rw [hanyb, Bool.false_or] at hstepb
      generalize togTo l a b (osl l).length = q at *
      have hs := rsign_C (rawQ q) (fits_rawQ (hft.mono (by omega)))
      have hc := rcompare_C (rawQ q) (rawQ 1) (fits_rawQ (hft.mono (by omega))) (hf1.mono (by omega))
      rw [rawQ_val, rawQ_val] at hc
      have e1 : 0 < sgn (rawQ q).top ↔ 0 < q := by
        have z1 := sgn_low (rawQ q)
        have z2 := sgn_zero_val (rawQ q)
        rw [rawQ_val] at z1 z2
        constructor
        · intro h
          have n1 : ¬ q < 0 := fun e => by have := z1.2 e; omega
          have n2 : ¬ q = 0 := fun e => by have := z2.2 e; omega
          exact Rat.lt_of_le_of_ne (Rat.not_lt.1 n1) (fun e => n2 e.symm)
        · intro h
          have n1 : ¬ sgn (rawQ q).top < 0 := fun e => absurd (z1.1 e) (Rat.not_lt.2 (Rat.le_of_lt h))
          have n2 : ¬ sgn (rawQ q).top = 0 := fun e => by rw [z2.1 e] at h; exact absurd h (by decide)
          omega
      have e2 := cmpQ_neg q 1
      generalize cmpQ q 1 = c at *
      generalize sgn (rawQ q).top = g at *
      by_cases hg : 0 < g
      · by_cases hcn : c < 0
        · have hyes : rowP l a b = true := by rw [hsb, decide_eq_true (e1.1 hg), decide_eq_true (e2.1 hcn)]; rfl
          rw [splitV_some halt hblt hany hanyb hyes]
          repeat (first | (with_reducible first | refine Way.imp ?_ | refine blk_o rfl ?_) | ((with_reducible refine WayR.imp (fun K hK => ?_)); simp (disch := first | omega | (simp only [dls]; omega)) only [std, reduceIte, reduceCtorEq, Int.reduceToNat, Nat.reduceAdd, Nat.reduceSub, Nat.reduceMul, Int.reduceAdd, Int.reduceSub, Int.reduceMul, Int.reduceNeg, fU]; subst hK) | refine zcA (ht) rfl rfl rfl ?_ | refine zcA (hs) rfl rfl rfl ?_ | (apply call_any_g (h1) rfl; (case hg => simp (disch := first | omega | (simp only [dls]; omega)) only [std, reduceIte, reduceCtorEq, Int.reduceToNat, Nat.reduceAdd, Nat.reduceSub, Nat.reduceMul, Int.reduceAdd, Int.reduceSub, Int.reduceMul, Int.reduceNeg, fU]); (case hcl => (simp only [evs, St.ev, constAV, evl]; (repeat (first | exact closeAVs_nil | (apply closeAVs_cons; (first | (refine close_own3 rfl (by decide)) | (refine close_ownO rfl (by decide) ?_; assumption) | rfl)))); done)); (case hu => rfl)) | (apply call_any_g (hc) rfl; (case hg => simp (disch := first | omega | (simp only [dls]; omega)) only [std, reduceIte, reduceCtorEq, Int.reduceToNat, Nat.reduceAdd, Nat.reduceSub, Nat.reduceMul, Int.reduceAdd, Int.reduceSub, Int.reduceMul, Int.reduceNeg, fU]); (case hcl => (simp only [evs, St.ev, constAV, evl]; (repeat (first | exact closeAVs_nil | (apply closeAVs_cons; (first | (refine close_own3 rfl (by decide)) | (refine close_ownO rfl (by decide) ?_; assumption) | rfl)))); done)); (case hu => rfl)))
          exact ⟨_, rfl, rfl⟩
        · have hno : rowP l a b = false := by rw [hsb, decide_eq_false (fun h => hcn (e2.2 h)), Bool.and_false]
          repeat (first | (with_reducible first | refine Way.imp ?_ | refine blk_o rfl ?_) | ((with_reducible refine WayR.imp (fun K hK => ?_)); simp (disch := first | omega | (simp only [dls]; omega)) only [std, reduceIte, reduceCtorEq, Int.reduceToNat, Nat.reduceAdd, Nat.reduceSub, Nat.reduceMul, Int.reduceAdd, Int.reduceSub, Int.reduceMul, Int.reduceNeg, fU]; subst hK) | refine zcA (ht) rfl rfl rfl ?_ | refine zcA (hs) rfl rfl rfl ?_ | (apply call_any_g (h1) rfl; (case hg => simp (disch := first | omega | (simp only [dls]; omega)) only [std, reduceIte, reduceCtorEq, Int.reduceToNat, Nat.reduceAdd, Nat.reduceSub, Nat.reduceMul, Int.reduceAdd, Int.reduceSub, Int.reduceMul, Int.reduceNeg, fU]); (case hcl => (simp only [evs, St.ev, constAV, evl]; (repeat (first | exact closeAVs_nil | (apply closeAVs_cons; (first | (refine close_own3 rfl (by decide)) | (refine close_ownO rfl (by decide) ?_; assumption) | rfl)))); done)); (case hu => rfl)) | (apply call_any_g (hc) rfl; (case hg => simp (disch := first | omega | (simp only [dls]; omega)) only [std, reduceIte, reduceCtorEq, Int.reduceToNat, Nat.reduceAdd, Nat.reduceSub, Nat.reduceMul, Int.reduceAdd, Int.reduceSub, Int.reduceMul, Int.reduceNeg, fU]); (case hcl => (simp only [evs, St.ev, constAV, evl]; (repeat (first | exact closeAVs_nil | (apply closeAVs_cons; (first | (refine close_own3 rfl (by decide)) | (refine close_ownO rfl (by decide) ?_; assumption) | rfl)))); done)); (case hu => rfl)))
          refine ⟨(b + 1), ?hI5, ?hM5, Fgt.head (Nat.le_refl _) [true, true, false, false, false, false, false, true, true] ?hT5 ?hH5⟩
          case hT5 => first | (simp (disch := omega) only [hds, liveT, cleanAV, cleanCell, clean1, cleanBlk, reduceIte, Int.reduceSub, Int.reduceAdd, Int.reduceNeg]; done) | rfl
          case hH5 => first | (simp (disch := omega) only [hds, liveT, cleanAV, cleanCell, clean1, cleanBlk, reduceIte, Int.reduceSub, Int.reduceAdd, Int.reduceNeg]; done) | rfl
          · exact ⟨by omega, hblt, by rw [hstepb, hno]⟩
          · show m - (b + 1) < m - b; omega
      · have hno : rowP l a b = false := by rw [hsb, decide_eq_false (fun h => hg (e1.2 h)), Bool.false_and]
        repeat (first | (with_reducible first | refine Way.imp ?_ | refine blk_o rfl ?_) | ((with_reducible refine WayR.imp (fun K hK => ?_)); simp (disch := first | omega | (simp only [dls]; omega)) only [std, reduceIte, reduceCtorEq, Int.reduceToNat, Nat.reduceAdd, Nat.reduceSub, Nat.reduceMul, Int.reduceAdd, Int.reduceSub, Int.reduceMul, Int.reduceNeg, fU]; subst hK) | refine zcA (ht) rfl rfl rfl ?_ | refine zcA (hs) rfl rfl rfl ?_ | (apply call_any_g (h1) rfl; (case hg => simp (disch := first | omega | (simp only [dls]; omega)) only [std, reduceIte, reduceCtorEq, Int.reduceToNat, Nat.reduceAdd, Nat.reduceSub, Nat.reduceMul, Int.reduceAdd, Int.reduceSub, Int.reduceMul, Int.reduceNeg, fU]); (case hcl => (simp only [evs, St.ev, constAV, evl]; (repeat (first | exact closeAVs_nil | (apply closeAVs_cons; (first | (refine close_own3 rfl (by decide)) | (refine close_ownO rfl (by decide) ?_; assumption) | rfl)))); done)); (case hu => rfl)) | (apply call_any_g (hc) rfl; (case hg => simp (disch := first | omega | (simp only [dls]; omega)) only [std, reduceIte, reduceCtorEq, Int.reduceToNat, Nat.reduceAdd, Nat.reduceSub, Nat.reduceMul, Int.reduceAdd, Int.reduceSub, Int.reduceMul, Int.reduceNeg, fU]); (case hcl => (simp only [evs, St.ev, constAV, evl]; (repeat (first | exact closeAVs_nil | (apply closeAVs_cons; (first | (refine close_own3 rfl (by decide)) | (refine close_ownO rfl (by decide) ?_; assumption) | rfl)))); done)); (case hu => rfl)))
        refine ⟨(b + 1), ?hI6, ?hM6, Fgt.head (Nat.le_refl _) [true, true, false, false, false, false, false, true, true] ?hT6 ?hH6⟩
        case hT6 => first | (simp (disch := omega) only [hds, liveT, cleanAV, cleanCell, clean1, cleanBlk, reduceIte, Int.reduceSub, Int.reduceAdd, Int.reduceNeg]; done) | rfl
        case hH6 => first | (simp (disch := omega) only [hds, liveT, cleanAV, cleanCell, clean1, cleanBlk, reduceIte, Int.reduceSub, Int.reduceAdd, Int.reduceNeg]; done) | rfl
        · exact ⟨by omega, hblt, by rw [hstepb, hno]⟩
        · show m - (b + 1) < m - b; omega

end Go.Proofs.YtdhkdnmefeeclaaDoor
set_option linter.unusedSimpArgs false
set_option linter.unusedVariables false
set_option maxRecDepth 100000
set_option maxHeartbeats 4000000
namespace Go.Proofs.YtdhkdnmefeeclaaDoor
open Go Go.Am Go.Proofs Go.RowKit Go.Off

/-- A fraction turned about. -/
theorem turned_val (b : RR) (z : Int) (h0 : b.top ≠ 0) (hz : z = if b.top < 0 then -(b.bot : Int) else (b.bot : Int)) : RR.val ⟨(rawZ z).minus, (rawZ z).size, b.size⟩ = b.val⁻¹ := by
  have ht : RR.top ⟨(rawZ z).minus, (rawZ z).size, b.size⟩ = z := by rw [← num_top]; exact rawZ_val z
  have hb0 : b.size.val ≠ 0 := by rw [← top_abs]; omega
  have hbt : RR.bot ⟨(rawZ z).minus, (rawZ z).size, b.size⟩ = b.size.val := by
    rw [← denR_bot, denR_val, if_neg hb0]
  have hbp : b.bot ≠ 0 := by rw [← denR_bot, denR_val]; split <;> omega
  have hm : b.val * RR.val ⟨(rawZ z).minus, (rawZ z).size, b.size⟩ = 1 := by
    unfold RR.val
    rw [ht, hbt, Rat.mkRat_mul_mkRat]
    have hz2 : b.top * z = ((b.bot * b.size.val : Nat) : Int) := by
      rw [← top_abs, Int.natCast_mul, hz]
      split
      · rename_i h; rw [Int.mul_neg, ← Int.neg_mul, Int.mul_comm]; congr 1; omega
      · rename_i h; rw [Int.mul_comm]; congr 1; omega
    rw [hz2]
    have hne : b.bot * b.size.val ≠ 0 := Nat.mul_ne_zero hbp hb0
    rw [Rat.mkRat_eq_div, Rat.div_def]
    exact Rat.mul_inv_cancel _ (by exact_mod_cast hne)
  have hv0 : b.val ≠ 0 := fun e => by rw [e, Rat.zero_mul] at hm; exact absurd hm (by decide)
  calc RR.val ⟨(rawZ z).minus, (rawZ z).size, b.size⟩ = (b.val⁻¹ * b.val) * RR.val ⟨(rawZ z).minus, (rawZ z).size, b.size⟩ := by rw [Rat.inv_mul_cancel _ hv0, Rat.one_mul]
    _ = b.val⁻¹ := by rw [Rat.mul_assoc, hm, Rat.mul_one]

abbrev c73 : CC := (.seq (.reg [⟨(some 2), none, (.box 45 (.tmp 0))⟩, ⟨(some 3), none, (.box 45 (.tmp 1))⟩, ⟨(some 4), none, (.new 45 [(.bool false), (.slice none 0 0), (.slice none 0 0)])⟩, ⟨(some 5), none, (.mv (.const (.int .i64 (0))))⟩]) (.seq (.seq (.reg [⟨(some 7), none, (.load 3 true (.tmp 3))⟩, ⟨(some 8), none, (.callf (.func 49) [(.tmp 7)])⟩, ⟨(some 9), none, (.bin .eql (.tmp 8) (.const (.int .i64 (0))))⟩]) (.cond (.tmp 9) (.seq (.reg [⟨(some 10), none, (.build [(.bool false), (.slice none 0 0), (.slice none 0 0)] [])⟩, ⟨none, none, (.store 3 (.tmp 4) (.tmp 10))⟩, ⟨(some 5), none, (.mv (.const (.int .i64 (5))))⟩]) .ret) .skip)) (.seq (.regn true [⟨(some 11), none, (.load 3 true (.tmp 3))⟩, ⟨(some 12), none, (.callf (.func 49) [(.tmp 11)])⟩, ⟨(some 13), none, (.bin .lss (.tmp 12) (.const (.int .i64 (0))))⟩, ⟨(some 14), none, (.load 3 true (.tmp 3))⟩, ⟨(some 15), none, (.callf (.func 62) [(.tmp 14)])⟩, ⟨(some 16), none, (.callf (.func 87) [(.tmp 13), (.tmp 15)])⟩, ⟨(some 17), none, (.faddr 0 (.tmp 3))⟩, ⟨(some 18), none, (.faddr 1 (.tmp 17))⟩, ⟨(some 19), none, (.load 1 false (.tmp 18))⟩, ⟨(some 20), none, (.build [(.bool false), (.slice none 0 0), (.slice none 0 0)] [(0, (2, (.tmp 16))), (2, (1, (.tmp 19)))])⟩, ⟨(some 6), none, (.fill 45 [(.bool false), (.slice none 0 0), (.slice none 0 0)])⟩, ⟨none, none, (.store 3 (.tmp 6) (.tmp 20))⟩]) (.seq (.reg [⟨(some 21), none, (.load 3 true (.tmp 2))⟩, ⟨(some 22), none, (.load 3 true (.tmp 6))⟩, ⟨(some 23), none, (.callf (.func 28) [(.tmp 21), (.tmp 22)])⟩, ⟨none, none, (.store 3 (.tmp 4) (.tmp 23))⟩, ⟨(some 5), none, (.mv (.const (.int .i64 (0))))⟩]) .ret))))
theorem cc73 : ccode Tryd.prog [] (Tryd.f73.body.getD .skip) = some c73 := by kernel_rfl
theorem body73 : Tryd.f73.body = some (Tryd.f73.body.getD .skip) := rfl

theorem rdiv_C (a b : RR) (ha : Fits a 9000000) (hb : Fits b 9000000) (h0 : b.val ≠ 0) : PureC Tryd.prog 73 [aR a, aR b] (.ret (.tup [aR (rawQ (a.val / b.val)), aI 0])) := by
  have ht0 : b.top ≠ 0 := fun e => h0 (by unfold RR.val; rw [e]; exact Rat.zero_mkRat _)
  have hs := rsign_C b (hb.mono (by decide))
  have hden := den_C b (Nat.le_trans hb.2 (by decide))
  have hdl := denR_len b.den
  have hf1 := hb.1
  have hf2 := hb.2
  by_cases hneg : b.top < 0
  · have hsv : sgn b.top = -1 := by unfold sgn; rw [if_pos hneg]
    rw [hsv] at hs
    have hmk := wmake_C true (denR b.den) (by omega)
    rw [show RI.val ⟨true, denR b.den⟩ = -(b.bot : Int) from by unfold RI.val; rw [if_pos rfl, denR_bot]] at hmk
    have htv := turned_val b (-(b.bot : Int)) ht0 (by rw [if_pos hneg])
    have hmul := rmul_C a ⟨(rawZ (-(b.bot : Int))).minus, (rawZ (-(b.bot : Int))).size, b.size⟩ ha ⟨by rw [rawZ_size, osl_len_rowN, Int.natAbs_neg, Int.natAbs_natCast]; exact hb.bot (by decide), hf1⟩
    rw [htv, ← Rat.div_def] at hmul
    generalize rawQ (a.val / b.val) = q at *
    generalize rawZ (-(b.bot : Int)) = z at *
    refine pureC_of (rs := [(RV.cell 4 3 true), (RV.tmp 5)]) Tryd.func73 (fun a w => Tryd.call73 a w) body73 cc73 (by kernel_rfl) ?_
    rw [Tryd.ntmps73]
    simp only [frs, Nat.reduceAdd, Nat.reduceSub]
    repeat (first | (with_reducible first | refine Way.imp ?_ | refine blk_o rfl ?_) | ((with_reducible refine WayR.imp (fun K hK => ?_)); simp (disch := first | omega | (simp only [dls]; omega)) only [std, reduceIte, reduceCtorEq, Int.reduceToNat, Nat.reduceAdd, Nat.reduceSub, Nat.reduceMul, Int.reduceAdd, Int.reduceSub, Int.reduceMul, Int.reduceNeg, fU]; subst hK) | refine zcA (hs) rfl rfl rfl ?_ | refine zcA (hden) rfl rfl rfl ?_ | refine zcA (hmk) rfl rfl rfl ?_ | refine zcA (hmul) rfl rfl rfl ?_)
    exact ⟨_, rfl, rfl⟩
  · have hsv : sgn b.top = 1 := by unfold sgn; rw [if_neg hneg, if_neg ht0]
    rw [hsv] at hs
    have hmk := wmake_C false (denR b.den) (by omega)
    rw [show RI.val ⟨false, denR b.den⟩ = (b.bot : Int) from by unfold RI.val; rw [if_neg (by simp), denR_bot]] at hmk
    have htv := turned_val b (b.bot : Int) ht0 (by rw [if_neg hneg])
    have hmul := rmul_C a ⟨(rawZ (b.bot : Int)).minus, (rawZ (b.bot : Int)).size, b.size⟩ ha ⟨by rw [rawZ_size, osl_len_rowN, Int.natAbs_natCast]; exact hb.bot (by decide), hf1⟩
    rw [htv, ← Rat.div_def] at hmul
    generalize rawQ (a.val / b.val) = q at *
    generalize rawZ (b.bot : Int) = z at *
    refine pureC_of (rs := [(RV.cell 4 3 true), (RV.tmp 5)]) Tryd.func73 (fun a w => Tryd.call73 a w) body73 cc73 (by kernel_rfl) ?_
    rw [Tryd.ntmps73]
    simp only [frs, Nat.reduceAdd, Nat.reduceSub]
    repeat (first | (with_reducible first | refine Way.imp ?_ | refine blk_o rfl ?_) | ((with_reducible refine WayR.imp (fun K hK => ?_)); simp (disch := first | omega | (simp only [dls]; omega)) only [std, reduceIte, reduceCtorEq, Int.reduceToNat, Nat.reduceAdd, Nat.reduceSub, Nat.reduceMul, Int.reduceAdd, Int.reduceSub, Int.reduceMul, Int.reduceNeg, fU]; subst hK) | refine zcA (hs) rfl rfl rfl ?_ | refine zcA (hden) rfl rfl rfl ?_ | refine zcA (hmk) rfl rfl rfl ?_ | refine zcA (hmul) rfl rfl rfl ?_)
    exact ⟨_, rfl, rfl⟩

end Go.Proofs.YtdhkdnmefeeclaaDoor
set_option linter.unusedSimpArgs false
set_option linter.unusedVariables false
set_option maxRecDepth 100000
set_option maxHeartbeats 4000000
namespace Go.Proofs.YtdhkdnmefeeclaaDoor
open Go Go.Am Go.Proofs Go.RowKit Go.Off

abbrev c47 : CC := (.seq (.reg [⟨(some 4), none, (.new 45 [(.bool false), (.slice none 0 0), (.slice none 0 0)])⟩, ⟨(some 5), none, (.mv (.const (.int .i64 (0))))⟩]) (.seq (.reg [⟨(some 6), none, (.mv (.tmp 0))⟩, ⟨(some 7), none, (.callf (.func 26) [(.tmp 6)])⟩, ⟨(some 8), none, (.mv (.tmp 1))⟩, ⟨(some 9), none, (.callf (.func 26) [(.tmp 8)])⟩, ⟨(some 10), none, (.callf (.func 73) [(.tmp 7), (.tmp 9)])⟩, ⟨(some 11), none, (.ext (.tmp 10) 0)⟩, ⟨(some 12), none, (.ext (.tmp 10) 1)⟩, ⟨none, none, (.store 3 (.tmp 4) (.tmp 11))⟩, ⟨(some 5), none, (.mv (.tmp 12))⟩]) .ret))
theorem cc47 : ccode Tryd.prog [] (Tryd.f47.body.getD .skip) = some c47 := by kernel_rfl
theorem body47 : Tryd.f47.body = some (Tryd.f47.body.getD .skip) := rfl

theorem rof_C (a b : Int) (ha : -9223372036854775808 ≤ a ∧ a ≤ 9223372036854775807) (hb : -9223372036854775808 ≤ b ∧ b ≤ 9223372036854775807) (h0 : (b : Rat) ≠ 0) : PureC Tryd.prog 47 [aI a, aI b] (.ret (.tup [aR (rawQ ((a : Rat) / (b : Rat))), aI 0])) := by
  have h1 := rint_C a ha.1 ha.2
  have h2 := rint_C b hb.1 hb.2
  have h3 := rdiv_C (rawQ (a : Rat)) (rawQ (b : Rat)) ((fits_rawQ (fits_int a ha.1 ha.2)).mono (by decide)) ((fits_rawQ (fits_int b hb.1 hb.2)).mono (by decide)) (by rw [rawQ_val]; exact h0)
  rw [rawQ_val, rawQ_val] at h3
  generalize rawQ ((a : Rat) / (b : Rat)) = q at *
  generalize rawQ (a : Rat) = qa at *
  generalize rawQ (b : Rat) = qb at *
  refine pureC_of (rs := [(RV.cell 4 3 true), (RV.tmp 5)]) Tryd.func47 (fun a w => Tryd.call47 a w) body47 cc47 (by kernel_rfl) ?_
  rw [Tryd.ntmps47]
  simp only [frs, Nat.reduceAdd, Nat.reduceSub]
  repeat (first | (with_reducible first | refine Way.imp ?_ | refine blk_o rfl ?_) | ((with_reducible refine WayR.imp (fun K hK => ?_)); simp (disch := first | omega | (simp only [dls]; omega)) only [std, reduceIte, reduceCtorEq, Int.reduceToNat, Nat.reduceAdd, Nat.reduceSub, Nat.reduceMul, Int.reduceAdd, Int.reduceSub, Int.reduceMul, Int.reduceNeg, fU]; subst hK) | refine zcA (h1) rfl rfl rfl ?_ | refine zcA (h2) rfl rfl rfl ?_ | refine zcA (h3) rfl rfl rfl ?_)
  exact ⟨_, rfl, rfl⟩

abbrev hlfR : RR := rawQ (1 / 2)
abbrev awP : PL := some [⟨3, hlfR⟩, ⟨5, hlfR⟩, ⟨6, hlfR⟩]
theorem hlf_fits : FitsQ (1 / 2 : Rat) 2 := by
  refine ⟨?_, ?_⟩
  · have : (1 / 2 : Rat).num = 1 := by decide +kernel
    rw [this]
    exact (fits_int 1 (by decide) (by decide)).1
  · have : (1 / 2 : Rat).den = 2 := by decide +kernel
    rw [this]
    exact (fits_int 2 (by decide) (by decide)).1
theorem awP_dom : DomP awP 3 2 := by
  refine ⟨Nat.le_refl _, fun p hp => ?_, fun p hp => ?_⟩
  · rcases List.mem_cons.1 hp with rfl | hp
    · decide
    · rcases List.mem_cons.1 hp with rfl | hp
      · decide
      · rw [List.mem_singleton.1 hp]; decide
  · rcases List.mem_cons.1 hp with rfl | hp
    · exact fits_rawQ hlf_fits
    · rcases List.mem_cons.1 hp with rfl | hp
      · exact fits_rawQ hlf_fits
      · rw [List.mem_singleton.1 hp]; exact fits_rawQ hlf_fits
theorem awP_v0 : vAt awP 0 = 1 / 2 := rawQ_val _
theorem awP_v1 : vAt awP 1 = 1 / 2 := rawQ_val _
theorem awP_v2 : vAt awP 2 = 1 / 2 := rawQ_val _
def awG (x y z : Bool) : Rat := ((if x then 1 / 2 else 0) + (if y then 1 / 2 else 0)) + (if z then 1 / 2 else 0)
theorem awT (a b : Nat) : togTo awP a b 3 = awG (hasB awP a b 0) (hasB awP a b 1) (hasB awP a b 2) := by
  unfold togTo togTo togTo togTo awG
  rw [awP_v0, awP_v1, awP_v2]
  generalize hasB awP a b 0 = x
  generalize hasB awP a b 1 = y
  generalize hasB awP a b 2 = z
  cases x <;> cases y <;> cases z <;> decide +kernel
theorem awCov : allK (covAt awP 3) 12 = true := by
  have h : covAt awP 3 = fun k => decide (awG (hasB awP k k 0) (hasB awP k k 1) (hasB awP k k 2) = if (k : Int) < 3 then 1 else 0) := funext fun k => by
    unfold covAt
    rw [show (osl awP).length = 3 from rfl, awT]
  rw [h]
  decide +kernel
theorem awSg (i : Nat) (hi : i < 3) : ¬ sgF awP i < 0 := fun h => by
  have h2 := (sgF_low awP i).1 h
  match i, hi with
  | 0, _ => rw [awP_v0] at h2; exact absurd h2 (by decide +kernel)
  | 1, _ => rw [awP_v1] at h2; exact absurd h2 (by decide +kernel)
  | 2, _ => rw [awP_v2] at h2; exact absurd h2 (by decide +kernel)
theorem awRight : rightP awP = true := by
  rw [rightP_eq]
  have h : allK (okS (setF awP) (sgF awP)) 3 = true := by
    unfold allK
    rw [List.all_eq_true]
    intro i hi
    have hi3 := List.mem_range.1 hi
    unfold okS
    rw [decide_eq_false (awSg i hi3)]
    match i, hi3 with
    | 0, _ => decide
    | 1, _ => decide
    | 2, _ => decide
  rw [show (osl awP).length = 3 from rfl, h]
  rfl
theorem awCovers : coversP awP 3 = true := by unfold coversP; rw [awRight, awCov]; decide
theorem awWhole : wholeP awP = false := by
  refine allK_false (k := 0) (by decide) ?_
  unfold unitP
  rw [awP_v0]
  decide +kernel
theorem awSets : setsL awP (osl awP).length = [3, 5, 6] := by
  rw [show (osl awP).length = 2 + 1 from rfl, setsL_succ, setsL_succ, setsL_succ, awP_v0, awP_v1, awP_v2, if_neg (by decide +kernel), if_neg (by decide +kernel), if_neg (by decide +kernel)]
  rfl
theorem awSplit : splitV awP 3 = (0, 1, true) := splitV_some (a := 0) (b := 1) (by decide) (by decide) rfl (by decide) (by
  unfold rowP splB
  rw [show (osl awP).length = 3 from rfl, awT]
  decide +kernel)
theorem awTog : togQ awP 0 2 = 1 / 2 := by
  have := togQ_in awP (a := 0) (b := 2) (by decide) (by decide)
  rw [show (osl awP).length = 3 from rfl, awT] at this
  exact this.trans (by decide +kernel)
theorem textH : textQ (1 / 2) = [49, 47, 50] := by
  have h1 : dec 1 = [49] := dec_one
  have h2 : dec 2 = [50] := by
    have h := dec_tv (s := [50]) (by simp) (by simp [isDig]) (by simp)
    rwa [show tv [50] = 2 from by decide] at h
  have e1 : (1 / 2 : Rat).num = 1 := by decide +kernel
  have e2 : (1 / 2 : Rat).den = 2 := by decide +kernel
  unfold textQ
  rw [e1, e2, if_neg (by decide), h2]
  have h3 : decZ 1 = dec 1 := rfl
  rw [h3, h1]
  rfl
theorem litP3 (x y z : Int) (r : RR) : [[Cell.c (.val (.int .i64 x)), Cell.c (.val (.bool r.minus)), Cell.c (nr r.size), Cell.c (nr r.den)], [Cell.c (.val (.int .i64 y)), Cell.c (.val (.bool r.minus)), Cell.c (nr r.size), Cell.c (nr r.den)], [Cell.c (.val (.int .i64 z)), Cell.c (.val (.bool r.minus)), Cell.c (nr r.size), Cell.c (nr r.den)]] = encB fPt [⟨x, r⟩, ⟨y, r⟩, ⟨z, r⟩] := rfl

abbrev c15 : CC := (.seq (.reg [⟨(some 0), none, (.mv (.const (.bool false)))⟩]) (.seq (.reg [⟨(some 8), none, (.callf (.func 47) [(.const (.int .i64 (1))), (.const (.int .i64 (2)))])⟩, ⟨(some 7), none, (.mv (.tmp 8))⟩, ⟨(some 9), none, (.ext (.tmp 7) 0)⟩, ⟨(some 10), none, (.ext (.tmp 7) 1)⟩, ⟨(some 1), none, (.new 45 [(.bool false), (.slice none 0 0), (.slice none 0 0)])⟩, ⟨none, none, (.store 3 (.tmp 1) (.tmp 9))⟩, ⟨(some 2), none, (.mv (.tmp 10))⟩]) (.seq (.reg [⟨(some 11), none, (.load 3 true (.tmp 1))⟩, ⟨(some 12), none, (.build [(.int .i64 (0)), (.bool false), (.slice none 0 0), (.slice none 0 0)] [(0, (1, (.const (.int .i64 (3))))), (1, (3, (.tmp 11)))])⟩, ⟨(some 13), none, (.load 3 true (.tmp 1))⟩, ⟨(some 14), none, (.build [(.int .i64 (0)), (.bool false), (.slice none 0 0), (.slice none 0 0)] [(0, (1, (.const (.int .i64 (5))))), (1, (3, (.tmp 13)))])⟩, ⟨(some 15), none, (.load 3 true (.tmp 1))⟩, ⟨(some 16), none, (.build [(.int .i64 (0)), (.bool false), (.slice none 0 0), (.slice none 0 0)] [(0, (1, (.const (.int .i64 (6))))), (1, (3, (.tmp 15)))])⟩, ⟨(some 17), none, (.mkrow 50 4 [(.tmp 12), (.tmp 14), (.tmp 16)])⟩, ⟨(some 3), none, (.mv (.tmp 17))⟩]) (.seq (.reg [⟨(some 19), none, (.mv (.tmp 3))⟩, ⟨(some 20), none, (.callf (.func 16) [(.tmp 19), (.const (.int .i64 (3)))])⟩, ⟨(some 18), none, (.mv (.tmp 20))⟩, ⟨(some 21), none, (.ext (.tmp 18) 0)⟩, ⟨(some 22), none, (.ext (.tmp 18) 1)⟩, ⟨(some 23), none, (.ext (.tmp 18) 2)⟩, ⟨(some 4), none, (.mv (.tmp 21))⟩, ⟨(some 5), none, (.mv (.tmp 22))⟩, ⟨(some 6), none, (.mv (.tmp 23))⟩]) (.seq (.reg [⟨(some 24), none, (.mv (.tmp 4))⟩, ⟨(some 25), none, (.bin .eql (.tmp 24) (.const (.int .i64 (0))))⟩, ⟨(some 26), none, (.mv (.tmp 25))⟩, ⟨(some 27), (some (26, true)), (.mv (.tmp 5))⟩, ⟨(some 28), (some (26, true)), (.bin .eql (.tmp 27) (.const (.int .i64 (1))))⟩, ⟨(some 29), none, (.pick (.tmp 26) (.tmp 28) (.const (.bool false)))⟩, ⟨(some 30), none, (.mv (.tmp 29))⟩, ⟨(some 31), (some (30, true)), (.mv (.tmp 6))⟩, ⟨(some 32), none, (.pick (.tmp 30) (.tmp 31) (.const (.bool false)))⟩, ⟨(some 33), none, (.mv (.tmp 32))⟩, ⟨(some 34), (some (33, true)), (.mv (.tmp 3))⟩, ⟨(some 35), (some (33, true)), (.callf (.func 42) [(.tmp 34)])⟩, ⟨(some 36), none, (.pick (.tmp 33) (.tmp 35) (.const (.bool false)))⟩, ⟨(some 37), none, (.mv (.tmp 36))⟩, ⟨(some 38), (some (37, true)), (.mv (.tmp 3))⟩, ⟨(some 39), (some (37, true)), (.callf (.func 43) [(.tmp 38), (.const (.int .i64 (3)))])⟩, ⟨(some 40), none, (.pick (.tmp 37) (.tmp 39) (.const (.bool false)))⟩, ⟨(some 41), none, (.mv (.tmp 40))⟩, ⟨(some 42), (some (41, true)), (.mv (.tmp 3))⟩, ⟨(some 43), (some (41, true)), (.callf (.func 21) [(.tmp 42)])⟩, ⟨(some 44), (some (41, true)), (.un .not (.tmp 43))⟩, ⟨(some 45), none, (.pick (.tmp 41) (.tmp 44) (.const (.bool false)))⟩, ⟨(some 46), none, (.mv (.tmp 45))⟩, ⟨(some 47), (some (46, true)), (.mv (.tmp 3))⟩, ⟨(some 48), (some (46, true)), (.callf (.func 20) [(.tmp 47)])⟩, ⟨(some 49), (some (46, true)), (.len false (.tmp 48))⟩, ⟨(some 50), (some (46, true)), (.bin .eql (.tmp 49) (.const (.int .i64 (3))))⟩, ⟨(some 51), none, (.pick (.tmp 46) (.tmp 50) (.const (.bool false)))⟩, ⟨(some 52), none, (.mv (.tmp 51))⟩, ⟨(some 53), (some (52, true)), (.mv (.tmp 3))⟩, ⟨(some 54), (some (52, true)), (.callf (.func 24) [(.tmp 53), (.const (.int .i64 (0))), (.const (.int .i64 (2)))])⟩, ⟨(some 55), (some (52, true)), (.callf (.func 48) [(.tmp 54)])⟩, ⟨(some 56), (some (52, true)), (.bin .eql (.tmp 55) (.const (.string ⟨#[49, 47, 50]⟩)))⟩, ⟨(some 57), none, (.pick (.tmp 52) (.tmp 56) (.const (.bool false)))⟩, ⟨(some 0), none, (.mv (.tmp 57))⟩]) .ret)))))
theorem cc15 : ccode Tryd.prog [] (Tryd.f15.body.getD .skip) = some c15 := by kernel_rfl
theorem body15 : Tryd.f15.body = some (Tryd.f15.body.getD .skip) := rfl

theorem awake19_C : PureC Tryd.prog 15 [] (.ret (aB true)) := by
  have h1 := rof_C 1 2 (by decide) (by decide) (by decide +kernel)
  rw [show ((1 : Int) : Rat) / ((2 : Int) : Rat) = 1 / 2 by decide +kernel] at h1
  have h2 := psplit_C awP 3 (by decide) 3 2 awP_dom (by decide) (by decide) (by decide)
  rw [show min (3 : Int).toNat 12 = 3 from rfl, awSplit] at h2
  have h3 := pright19_C awP 2 ⟨fun p hp => ⟨by have := (awP_dom.set p hp).1; omega, (awP_dom.set p hp).2⟩, awP_dom.fit⟩ (by decide) (by decide)
  rw [awRight] at h3
  have h4 := pcovers_C awP 3 3 2 awP_dom (by decide) (by decide) (by decide)
  rw [awCovers] at h4
  have h5 := pwhole_C awP 3 2 awP_dom (by decide) (by decide) (by decide)
  rw [awWhole] at h5
  have h6 := psets_C awP 3 2 awP_dom (by decide) (by decide) (by decide)
  rw [awSets] at h6
  change PureC _ _ _ (.ret (aWs (some [3, 5, 6]))) at h6
  have h7 := ptog_C awP 0 2 3 2 awP_dom (by decide) (by decide) (by decide)
  rw [awTog] at h7
  have h8 := rtext_C (rawQ (1 / 2)) ((fits_rawQ hlf_fits).mono (by decide))
  rw [rawQ_val, textH] at h8
  change PureC _ _ _ (.ret (.tup [aR (rawQ (1 / 2)), aI 0])) at h1
  change PureC _ _ [aPl (some [⟨3, rawQ (1 / 2)⟩, ⟨5, rawQ (1 / 2)⟩, ⟨6, rawQ (1 / 2)⟩]), aI 3] (.ret (.tup [aI 0, aI 1, aB true])) at h2
  change PureC _ _ [aPl (some [⟨3, rawQ (1 / 2)⟩, ⟨5, rawQ (1 / 2)⟩, ⟨6, rawQ (1 / 2)⟩])] _ at h3
  change PureC _ _ [aPl (some [⟨3, rawQ (1 / 2)⟩, ⟨5, rawQ (1 / 2)⟩, ⟨6, rawQ (1 / 2)⟩]), aI 3] _ at h4
  change PureC _ _ [aPl (some [⟨3, rawQ (1 / 2)⟩, ⟨5, rawQ (1 / 2)⟩, ⟨6, rawQ (1 / 2)⟩])] _ at h5
  change PureC _ _ [aPl (some [⟨3, rawQ (1 / 2)⟩, ⟨5, rawQ (1 / 2)⟩, ⟨6, rawQ (1 / 2)⟩])] _ at h6
  change PureC _ _ [aPl (some [⟨3, rawQ (1 / 2)⟩, ⟨5, rawQ (1 / 2)⟩, ⟨6, rawQ (1 / 2)⟩]), aI 0, aI 2] _ at h7
  have hf7 : flatAV (aR (rawQ (1 / 2))) = false := by decide +kernel
  have hf6 : flatAV (aWs (some [3, 5, 6])) = false := rfl
  generalize rawQ (1 / 2) = q at *
  refine pureC_of (rs := [(RV.tmp 0)]) Tryd.func15 (fun a w => Tryd.call15 a w) body15 cc15 (by kernel_rfl) ?_
  rw [Tryd.ntmps15]
  simp only [frs, Nat.reduceAdd, Nat.reduceSub]
  repeat (first | (with_reducible first | refine Way.imp ?_ | refine blk_o rfl ?_) | ((with_reducible refine WayR.imp (fun K hK => ?_)); simp (disch := first | omega | (simp only [dls]; omega)) only [std, reduceIte, reduceCtorEq, Int.reduceToNat, Nat.reduceAdd, Nat.reduceSub, Nat.reduceMul, Int.reduceAdd, Int.reduceSub, Int.reduceMul, Int.reduceNeg, fU, litP3]; subst hK) | refine zcA (h1) rfl rfl rfl ?_ | (apply call_flat (h2) rfl; (case hcl => (simp only [evs, St.ev, constAV, evl]; (repeat (first | exact closeAVs_nil | (apply closeAVs_cons; (first | (refine close_own3 rfl (by decide)) | (refine close_ownO rfl (by decide) ?_; assumption) | rfl)))); done)); (case hf => rfl)) | (apply call_flat_g (by simp (disch := first | omega | (simp only [dls]; omega)) only [std, reduceIte, reduceCtorEq, Int.reduceToNat, Nat.reduceAdd, Nat.reduceSub, Nat.reduceMul, Int.reduceAdd, Int.reduceSub, Int.reduceMul, Int.reduceNeg, fU, litP3]) (h3) rfl; (case hcl => (simp only [evs, St.ev, constAV, evl]; (repeat (first | exact closeAVs_nil | (apply closeAVs_cons; (first | (refine close_own3 rfl (by decide)) | (refine close_ownO rfl (by decide) ?_; assumption) | rfl)))); done)); (case hf => rfl)) | (apply call_flat_g (by simp (disch := first | omega | (simp only [dls]; omega)) only [std, reduceIte, reduceCtorEq, Int.reduceToNat, Nat.reduceAdd, Nat.reduceSub, Nat.reduceMul, Int.reduceAdd, Int.reduceSub, Int.reduceMul, Int.reduceNeg, fU, litP3]) (h4) rfl; (case hcl => (simp only [evs, St.ev, constAV, evl]; (repeat (first | exact closeAVs_nil | (apply closeAVs_cons; (first | (refine close_own3 rfl (by decide)) | (refine close_ownO rfl (by decide) ?_; assumption) | rfl)))); done)); (case hf => rfl)) | (apply call_flat_g (by simp (disch := first | omega | (simp only [dls]; omega)) only [std, reduceIte, reduceCtorEq, Int.reduceToNat, Nat.reduceAdd, Nat.reduceSub, Nat.reduceMul, Int.reduceAdd, Int.reduceSub, Int.reduceMul, Int.reduceNeg, fU, litP3]) (h5) rfl; (case hcl => (simp only [evs, St.ev, constAV, evl]; (repeat (first | exact closeAVs_nil | (apply closeAVs_cons; (first | (refine close_own3 rfl (by decide)) | (refine close_ownO rfl (by decide) ?_; assumption) | rfl)))); done)); (case hf => rfl)) | (apply call_ret_g (ids := [1]) (by simp (disch := first | omega | (simp only [dls]; omega)) only [std, reduceIte, reduceCtorEq, Int.reduceToNat, Nat.reduceAdd, Nat.reduceSub, Nat.reduceMul, Int.reduceAdd, Int.reduceSub, Int.reduceMul, Int.reduceNeg, fU, litP3]) (h6) rfl; (case hcl => (simp only [evs, St.ev, constAV, evl]; (repeat (first | exact closeAVs_nil | (apply closeAVs_cons; (first | (refine close_own3 rfl (by decide)) | (refine close_ownO rfl (by decide) ?_; assumption) | rfl)))); done)); (case hf => exact hf6 ..); (case hu => rfl); (case hh => ((simp only [fzl, Nat.reduceBEq, Nat.reduceAdd, Bool.false_eq_true, if_true, if_false, reduceIte]) <;> rfl))) | (apply call_ret_g (ids := [1]) (by simp (disch := first | omega | (simp only [dls]; omega)) only [std, reduceIte, reduceCtorEq, Int.reduceToNat, Nat.reduceAdd, Nat.reduceSub, Nat.reduceMul, Int.reduceAdd, Int.reduceSub, Int.reduceMul, Int.reduceNeg, fU, litP3]) (h7) rfl; (case hcl => (simp only [evs, St.ev, constAV, evl]; (repeat (first | exact closeAVs_nil | (apply closeAVs_cons; (first | (refine close_own3 rfl (by decide)) | (refine close_ownO rfl (by decide) ?_; assumption) | rfl)))); done)); (case hf => exact hf7 ..); (case hu => rfl); (case hh => ((simp only [fzl, Nat.reduceBEq, Nat.reduceAdd, Bool.false_eq_true, if_true, if_false, reduceIte]) <;> rfl))) | (apply call_any_g (h8) rfl; (case hg => simp (disch := first | omega | (simp only [dls]; omega)) only [std, reduceIte, reduceCtorEq, Int.reduceToNat, Nat.reduceAdd, Nat.reduceSub, Nat.reduceMul, Int.reduceAdd, Int.reduceSub, Int.reduceMul, Int.reduceNeg, fU, litP3]); (case hcl => (simp only [evs, St.ev, constAV, evl]; (repeat (first | exact closeAVs_nil | (apply closeAVs_cons; (first | (refine close_own3 rfl (by decide)) | (refine close_ownO rfl (by decide) ?_; assumption) | rfl)))); done)); (case hu => rfl)))
  exact ⟨_, rfl, rfl⟩

end Go.Proofs.YtdhkdnmefeeclaaDoor
