/- Walks of layer 19: Covers, of the program and of the document. -/
import Derived.Test.YtdhkdnmefeeclaaDoorUX
import Derived.Test.YtdhkdnmefeeclaaDoorZB
set_option linter.unusedSimpArgs false
set_option linter.unusedVariables false
set_option linter.unnecessarySimpa false
set_option linter.unusedSimpArgs false
set_option linter.unusedVariables false
set_option maxRecDepth 100000
set_option maxHeartbeats 4000000
namespace Go.Proofs.YtdhkdnmefeeclaaDoor
open Go Go.Am Go.Proofs Go.RowKit Go.Off

def covAt (l : PL) (n : Int) (k : Nat) : Bool := decide (togTo l k k (osl l).length = if (k : Int) < n then 1 else 0)
def coversP (l : PL) (n : Int) : Bool := rightP l && (decide (0 ≤ n) && (decide (n ≤ 12) && allK (covAt l n) 12))
theorem togQ_in (l : PL) {a b : Nat} (ha : a < 12) (hb : b < 12) : togQ l ((a : Nat) : Int) ((b : Nat) : Int) = togTo l a b (osl l).length := by
  unfold togQ itemK
  rw [decide_eq_true (by omega : (0 : Int) ≤ (a : Int)), decide_eq_true (by omega : (a : Int) < 12), decide_eq_true (by omega : (0 : Int) ≤ (b : Int)), decide_eq_true (by omega : (b : Int) < 12), if_pos (by rfl), Int.toNat_natCast, Int.toNat_natCast]

theorem fits_togQ {l : PL} {N L : Nat} (hd : DomP l N L) (hN : N ≤ 1000) (hL : 1 ≤ L) (hL2 : L ≤ 1000) (a b : Int) : FitsQ (togQ l a b) 1100000 := by
  unfold togQ
  split
  · have hlen := hd.len
    have := Nat.mul_le_mul (show (osl l).length ≤ 1000 by omega) (show L + 1 ≤ 1001 by omega)
    exact (fits_tog hd hL _ _ _ (Nat.le_refl _)).mono (by omega)
  · exact fitsQ_zero _ (by decide)
theorem all12 : ∀ k : Fin 12, k ∈ finK 12 (itemsL 4095) := by decide +kernel
theorem len12 : (finK 12 (itemsL 4095)).length = 12 := by decide +kernel

abbrev c43_k1 : CC := (.seq (.reg [⟨none, none, (.store 1 (.tmp 4) (.const (.bool true)))⟩]) .ret)
abbrev c43_b1 : CC := (.block 1 (.seq (.reg [⟨(some 6), none, (.mv (.const (.int .i64 (0))))⟩]) (.seq (.seq (.reg [⟨(some 20), none, (.mv (.tmp 5))⟩, ⟨(some 21), none, (.load 1 false (.tmp 3))⟩, ⟨(some 22), none, (.bin .lss (.tmp 20) (.tmp 21))⟩]) (.cond (.tmp 22) (.reg [⟨(some 6), none, (.mv (.const (.int .i64 (1))))⟩]) .skip)) (.seq (.reg [⟨(some 23), none, (.load 1 false (.tmp 2))⟩, ⟨(some 24), none, (.mv (.tmp 5))⟩, ⟨(some 25), none, (.mv (.tmp 5))⟩, ⟨(some 26), none, (.callf (.func 24) [(.tmp 23), (.tmp 24), (.tmp 25)])⟩, ⟨(some 27), none, (.mv (.tmp 6))⟩, ⟨(some 28), none, (.callf (.func 26) [(.tmp 27)])⟩, ⟨(some 29), none, (.callf (.func 25) [(.tmp 26), (.tmp 28)])⟩, ⟨(some 30), none, (.bin .neq (.tmp 29) (.const (.int .i64 (0))))⟩]) (.cond (.tmp 30) (.seq (.reg [⟨none, none, (.store 1 (.tmp 4) (.const (.bool false)))⟩]) .ret) .skip)))))
abbrev c43 : CC := (.seq (.reg [⟨(some 2), none, (.box 22 (.tmp 0))⟩, ⟨(some 3), none, (.box 3 (.tmp 1))⟩, ⟨(some 4), none, (.new 4 [(.bool false)])⟩]) (.seq (.seq (.reg [⟨(some 7), none, (.load 1 false (.tmp 2))⟩, ⟨(some 8), none, (.callf (.func 42) [(.tmp 7)])⟩, ⟨(some 9), none, (.un .not (.tmp 8))⟩, ⟨(some 10), none, (.mv (.tmp 9))⟩, ⟨(some 11), (some (10, false)), (.load 1 false (.tmp 3))⟩, ⟨(some 12), (some (10, false)), (.bin .lss (.tmp 11) (.const (.int .i64 (0))))⟩, ⟨(some 13), none, (.pick (.tmp 10) (.const (.bool true)) (.tmp 12))⟩, ⟨(some 14), none, (.mv (.tmp 13))⟩, ⟨(some 15), (some (14, false)), (.load 1 false (.tmp 3))⟩, ⟨(some 16), (some (14, false)), (.bin .gtr (.tmp 15) (.const (.int .i64 (12))))⟩, ⟨(some 17), none, (.pick (.tmp 14) (.const (.bool true)) (.tmp 16))⟩]) (.cond (.tmp 17) (.seq (.reg [⟨none, none, (.store 1 (.tmp 4) (.const (.bool false)))⟩]) .ret) .skip)) (.seq (.seq (.reg [⟨(some 18), none, (.callf (.func 72) [(.const (.int .i64 (4095)))])⟩]) (.block 0 (.rf (.tmp 18) [19] [(5, 19)] c43_b1))) c43_k1)))
theorem cc43 : ccode Tryd.prog [] (Tryd.f43.body.getD .skip) = some c43 := by kernel_rfl
theorem body43 : Tryd.f43.body = some (Tryd.f43.body.getD .skip) := rfl

theorem pcovers_C (l : PL) (n : Int) (N L : Nat) (hd : DomP l N L) (hN : N ≤ 1000) (hL : 1 ≤ L) (hL2 : L ≤ 1000) : PureC Tryd.prog 43 [aPl l, aI n] (.ret (aB (coversP l n))) := by
  have hlen := hd.len
  have hr := pright19_C l L ⟨fun p hp => ⟨by have := (hd.set p hp).1; omega, (hd.set p hp).2⟩, hd.fit⟩ (by omega) (by omega)
  unfold coversP
  cases c1 : rightP l with
  | false =>
    rw [c1] at hr
    refine pureC_of (rs := [(RV.cell 4 1 false)]) Tryd.func43 (fun a w => Tryd.call43 a w) body43 cc43 (by kernel_rfl) ?_
    rw [Tryd.ntmps43]
    simp only [frs, Nat.reduceAdd, Nat.reduceSub]
    repeat (first | (with_reducible first | refine Way.imp ?_ | refine blk_o rfl ?_) | ((with_reducible refine WayR.imp (fun K hK => ?_)); simp (disch := first | omega | (simp only [dls]; omega)) only [std, reduceIte, reduceCtorEq, Int.reduceToNat, Nat.reduceAdd, Nat.reduceSub, Nat.reduceMul, Int.reduceAdd, Int.reduceSub, Int.reduceMul, Int.reduceNeg, fU]; subst hK) | refine zcA (hr) rfl rfl rfl ?_)
    exact ⟨_, rfl, rfl⟩
  | true =>
  rw [c1] at hr
  rw [Bool.true_and]
  by_cases n0 : 0 ≤ n
  rotate_left
  · rw [decide_eq_false n0]
    refine pureC_of (rs := [(RV.cell 4 1 false)]) Tryd.func43 (fun a w => Tryd.call43 a w) body43 cc43 (by kernel_rfl) ?_
    rw [Tryd.ntmps43]
    simp only [frs, Nat.reduceAdd, Nat.reduceSub]
    repeat (first | (with_reducible first | refine Way.imp ?_ | refine blk_o rfl ?_) | ((with_reducible refine WayR.imp (fun K hK => ?_)); simp (disch := first | omega | (simp only [dls]; omega)) only [std, reduceIte, reduceCtorEq, Int.reduceToNat, Nat.reduceAdd, Nat.reduceSub, Nat.reduceMul, Int.reduceAdd, Int.reduceSub, Int.reduceMul, Int.reduceNeg, fU]; subst hK) | refine zcA (hr) rfl rfl rfl ?_)
    exact ⟨_, rfl, rfl⟩
  by_cases n1 : n ≤ 12
  rotate_left
  · rw [decide_eq_false n1, Bool.false_and, Bool.and_false]
    refine pureC_of (rs := [(RV.cell 4 1 false)]) Tryd.func43 (fun a w => Tryd.call43 a w) body43 cc43 (by kernel_rfl) ?_
    rw [Tryd.ntmps43]
    simp only [frs, Nat.reduceAdd, Nat.reduceSub]
    repeat (first | (with_reducible first | refine Way.imp ?_ | refine blk_o rfl ?_) | ((with_reducible refine WayR.imp (fun K hK => ?_)); simp (disch := first | omega | (simp only [dls]; omega)) only [std, reduceIte, reduceCtorEq, Int.reduceToNat, Nat.reduceAdd, Nat.reduceSub, Nat.reduceMul, Int.reduceAdd, Int.reduceSub, Int.reduceMul, Int.reduceNeg, fU, show (12 < n) from by omega]; subst hK) | refine zcA (hr) rfl rfl rfl ?_)
    exact ⟨_, rfl, rfl⟩
  rw [decide_eq_true n0, decide_eq_true n1, Bool.true_and, Bool.true_and]
  have hit0 := items_C 4095
  have hit := items_iter 4095 12 (by decide) (items_below (m := 12) (by decide))
  refine pureC_of (rs := [(RV.cell 4 1 false)]) Tryd.func43 (fun a w => Tryd.call43 a w) body43 cc43 (by kernel_rfl) ?_
  rw [Tryd.ntmps43]
  simp only [frs, Nat.reduceAdd, Nat.reduceSub]
  repeat (first | (with_reducible first | refine Way.imp ?_ | refine blk_o rfl ?_) | ((with_reducible refine WayR.imp (fun K hK => ?_)); simp (disch := first | omega | (simp only [dls]; omega)) only [std, reduceIte, reduceCtorEq, Int.reduceToNat, Nat.reduceAdd, Nat.reduceSub, Nat.reduceMul, Int.reduceAdd, Int.reduceSub, Int.reduceMul, Int.reduceNeg, fU, show ¬ (12 < n) from by omega]; subst hK) | refine zcA (hr) rfl rfl rfl ?_ | refine zcA (hit0) rfl rfl rfl ?_)
  refine awp_rf rfl (by simp [closedCell]) hit (fun pre h => h = [⟨0, 22, 1, [[.c (encSl 4 fPt l)]], true, true⟩, ⟨0, 3, 1, [[.c (.val (.int .i64 n))]], true, true⟩, ⟨0, 4, 1, [[.c (.val (.bool false))]], true, true⟩] ∧ ∀ k ∈ pre, covAt l n k.1 = true) ⟨rfl, fun k hk => by cases hk⟩
    (fun pre e h => e = .ret ∧ ∃ k : Fin 12, covAt l n k.1 = false ∧ h = [⟨0, 22, 1, [[.c (encSl 4 fPt l)]], true, true⟩, ⟨0, 3, 1, [[.c (.val (.int .i64 n))]], true, true⟩, ⟨0, 4, 1, [[.c (.val (.bool false))]], true, true⟩]) ?_ ?_ ?_
  · rintro pre k h hlen2 ⟨rfl, hinv⟩
    obtain ⟨k, hk⟩ := k
    have ht := ptog_C l k k N L hd hN hL hL2
    have hft := fits_togQ hd hN hL hL2 k k
    rw [togQ_in l hk hk] at ht hft
    have hcov : covAt l n k = decide (togTo l k k (osl l).length = if (k : Int) < n then 1 else 0) := rfl
    generalize togTo l k k (osl l).length = q at *
    by_cases hkn : (k : Int) < n
    · rw [if_pos hkn] at hcov
      have h1 := rint_C 1 (by omega) (by omega)
      rw [show ((1 : Int) : Rat) = 1 from rfl] at h1
      have hc := rcompare_C (rawQ q) (rawQ 1) (fits_rawQ (hft.mono (by omega))) ((fits_rawQ (fits_int 1 (by decide) (by decide))).mono (by omega))
      rw [rawQ_val, rawQ_val] at hc
      have he := cmpQ_eq q 1
      generalize cmpQ q 1 = c at *
      simp only [mvT, setps, rnd, Nat.reduceAdd]
      by_cases hz : c = 0
      · repeat (first | (with_reducible first | refine Way.imp ?_ | refine blk_o rfl ?_) | ((with_reducible refine WayR.imp (fun K hK => ?_)); simp (disch := first | omega | (simp only [dls]; omega)) only [std, reduceIte, reduceCtorEq, Int.reduceToNat, Nat.reduceAdd, Nat.reduceSub, Nat.reduceMul, Int.reduceAdd, Int.reduceSub, Int.reduceMul, Int.reduceNeg, fU]; subst hK) | refine zcA (ht) rfl rfl rfl ?_ | refine zcA (h1) rfl rfl rfl ?_ | refine zcA (hc) rfl rfl rfl ?_)
        refine ⟨_, ⟨rfl, ?hI1⟩, _, Fgt.head (Nat.le_refl _) [] rfl ?hH1⟩
        case hH1 => first | (simp (disch := omega) only [hds, liveT, cleanAV, cleanCell, clean1, cleanBlk, reduceIte, Int.reduceSub, Int.reduceAdd, Int.reduceNeg]; done) | rfl
        intro j hj
        rcases List.mem_append.1 hj with hj | hj
        · exact hinv j hj
        · rw [List.mem_singleton.1 hj]; show covAt l n k = true; rw [hcov, decide_eq_true (he.1 hz)]
      · repeat (first | (with_reducible first | refine Way.imp ?_ | refine blk_o rfl ?_) | ((with_reducible refine WayR.imp (fun K hK => ?_)); simp (disch := first | omega | (simp only [dls]; omega)) only [std, reduceIte, reduceCtorEq, Int.reduceToNat, Nat.reduceAdd, Nat.reduceSub, Nat.reduceMul, Int.reduceAdd, Int.reduceSub, Int.reduceMul, Int.reduceNeg, fU]; subst hK) | refine zcA (ht) rfl rfl rfl ?_ | refine zcA (h1) rfl rfl rfl ?_ | refine zcA (hc) rfl rfl rfl ?_)
        exact ⟨rfl, ⟨k, hk⟩, by rw [hcov, decide_eq_false (fun h => hz (he.2 h))], rfl⟩
    · rw [if_neg hkn] at hcov
      have h1 := rint_C 0 (by omega) (by omega)
      rw [show ((0 : Int) : Rat) = 0 from rfl] at h1
      have hc := rcompare_C (rawQ q) (rawQ 0) (fits_rawQ (hft.mono (by omega))) (fits_rawQ (fitsQ_zero _ (by decide)))
      rw [rawQ_val, rawQ_val] at hc
      have he := cmpQ_eq q 0
      generalize cmpQ q 0 = c at *
      simp only [mvT, setps, rnd, Nat.reduceAdd]
      by_cases hz : c = 0
      · repeat (first | (with_reducible first | refine Way.imp ?_ | refine blk_o rfl ?_) | ((with_reducible refine WayR.imp (fun K hK => ?_)); simp (disch := first | omega | (simp only [dls]; omega)) only [std, reduceIte, reduceCtorEq, Int.reduceToNat, Nat.reduceAdd, Nat.reduceSub, Nat.reduceMul, Int.reduceAdd, Int.reduceSub, Int.reduceMul, Int.reduceNeg, fU]; subst hK) | refine zcA (ht) rfl rfl rfl ?_ | refine zcA (h1) rfl rfl rfl ?_ | refine zcA (hc) rfl rfl rfl ?_)
        refine ⟨_, ⟨rfl, ?hI2⟩, _, Fgt.head (Nat.le_refl _) [] rfl ?hH2⟩
        case hH2 => first | (simp (disch := omega) only [hds, liveT, cleanAV, cleanCell, clean1, cleanBlk, reduceIte, Int.reduceSub, Int.reduceAdd, Int.reduceNeg]; done) | rfl
        intro j hj
        rcases List.mem_append.1 hj with hj | hj
        · exact hinv j hj
        · rw [List.mem_singleton.1 hj]; show covAt l n k = true; rw [hcov, decide_eq_true (he.1 hz)]
      · repeat (first | (with_reducible first | refine Way.imp ?_ | refine blk_o rfl ?_) | ((with_reducible refine WayR.imp (fun K hK => ?_)); simp (disch := first | omega | (simp only [dls]; omega)) only [std, reduceIte, reduceCtorEq, Int.reduceToNat, Nat.reduceAdd, Nat.reduceSub, Nat.reduceMul, Int.reduceAdd, Int.reduceSub, Int.reduceMul, Int.reduceNeg, fU]; subst hK) | refine zcA (ht) rfl rfl rfl ?_ | refine zcA (h1) rfl rfl rfl ?_ | refine zcA (hc) rfl rfl rfl ?_)
        exact ⟨rfl, ⟨k, hk⟩, by rw [hcov, decide_eq_false (fun h => hz (he.2 h))], rfl⟩
  · rintro xs h rfl ⟨rfl, hinv⟩
    have hall : allK (covAt l n) 12 = true := by
      unfold allK
      rw [List.all_eq_true]
      intro k hk
      exact hinv ⟨k, List.mem_range.1 hk⟩ (all12 _)
    rw [hall]
    repeat (first | (with_reducible first | refine Way.imp ?_ | refine blk_o rfl ?_) | ((with_reducible refine WayR.imp (fun K hK => ?_)); simp (disch := first | omega | (simp only [dls]; omega)) only [std, reduceIte, reduceCtorEq, Int.reduceToNat, Nat.reduceAdd, Nat.reduceSub, Nat.reduceMul, Int.reduceAdd, Int.reduceSub, Int.reduceMul, Int.reduceNeg, fU]; subst hK))
    exact ⟨_, rfl, rfl⟩
  · rintro e pre h _ ⟨rfl, k, hk, rfl⟩
    rw [allK_false k.2 hk]
    repeat (first | (with_reducible first | refine Way.imp ?_ | refine blk_o rfl ?_) | ((with_reducible refine WayR.imp (fun K hK => ?_)); simp (disch := first | omega | (simp only [dls]; omega)) only [std, reduceIte, reduceCtorEq, Int.reduceToNat, Nat.reduceAdd, Nat.reduceSub, Nat.reduceMul, Int.reduceAdd, Int.reduceSub, Int.reduceMul, Int.reduceNeg, fU]; subst hK))
    exact ⟨_, rfl, rfl⟩

end Go.Proofs.YtdhkdnmefeeclaaDoor
set_option linter.unusedSimpArgs false
set_option linter.unusedVariables false
set_option maxRecDepth 100000
set_option maxHeartbeats 4000000
namespace Go.Proofs.YtdhkdnmefeeclaaDoor
open Go Go.Am Go.Proofs Go.RowKit Go.Off

abbrev c22_k1 : CC := (.seq (.reg [⟨(some 4), none, (.mv (.const (.bool true)))⟩]) .ret)
abbrev c22_b1 : CC := (.seq (.seq (.reg [⟨(some 18), none, (.mv (.tmp 5))⟩, ⟨(some 19), none, (.bin .lss (.tmp 18) (.const (.int .i64 (12))))⟩]) (.cond (.tmp 19) .skip (.exit 0))) (.seq (.block 1 (.seq (.reg [⟨(some 6), none, (.mv (.const (.string ⟨#[48]⟩)))⟩]) (.seq (.seq (.reg [⟨(some 22), none, (.mv (.tmp 5))⟩, ⟨(some 23), none, (.mv (.tmp 1))⟩, ⟨(some 24), none, (.bin .lss (.tmp 22) (.tmp 23))⟩]) (.cond (.tmp 24) (.reg [⟨(some 6), none, (.mv (.const (.string ⟨#[49]⟩)))⟩]) .skip)) (.seq (.reg [⟨(some 25), none, (.mv (.tmp 0))⟩, ⟨(some 26), none, (.mv (.tmp 5))⟩, ⟨(some 27), none, (.mv (.tmp 5))⟩, ⟨(some 28), none, (.callf (.func 18) [(.tmp 25), (.tmp 26), (.tmp 27)])⟩, ⟨(some 29), none, (.mv (.tmp 6))⟩, ⟨(some 30), none, (.build [(.string ⟨#[]⟩), (.string ⟨#[]⟩)] [(0, (1, (.tmp 29))), (1, (1, (.const (.string ⟨#[49]⟩))))])⟩, ⟨(some 31), none, (.aggeq true 2 (.tmp 28) (.tmp 30))⟩]) (.cond (.tmp 31) (.seq (.reg [⟨(some 4), none, (.mv (.const (.bool false)))⟩]) .ret) .skip))))) (.reg [⟨(some 20), none, (.mv (.tmp 5))⟩, ⟨(some 21), none, (.bin .add (.tmp 20) (.const (.int .i64 (1))))⟩, ⟨(some 5), none, (.mv (.tmp 21))⟩])))
abbrev c22 : CC := (.seq (.reg [⟨(some 4), none, (.mv (.const (.bool false)))⟩]) (.seq (.seq (.reg [⟨(some 7), none, (.mv (.tmp 0))⟩, ⟨(some 8), none, (.callf (.func 23) [(.tmp 7)])⟩, ⟨(some 9), none, (.un .not (.tmp 8))⟩, ⟨(some 10), none, (.mv (.tmp 9))⟩, ⟨(some 11), (some (10, false)), (.mv (.tmp 1))⟩, ⟨(some 12), (some (10, false)), (.bin .lss (.tmp 11) (.const (.int .i64 (0))))⟩, ⟨(some 13), none, (.pick (.tmp 10) (.const (.bool true)) (.tmp 12))⟩, ⟨(some 14), none, (.mv (.tmp 13))⟩, ⟨(some 15), (some (14, false)), (.mv (.tmp 1))⟩, ⟨(some 16), (some (14, false)), (.bin .gtr (.tmp 15) (.const (.int .i64 (12))))⟩, ⟨(some 17), none, (.pick (.tmp 14) (.const (.bool true)) (.tmp 16))⟩]) (.cond (.tmp 17) (.seq (.reg [⟨(some 4), none, (.mv (.const (.bool false)))⟩]) .ret) .skip)) (.seq (.seq (.reg [⟨(some 5), none, (.mv (.const (.int .i64 (0))))⟩]) (.block 0 (.loop c22_b1))) c22_k1)))
theorem cc22 : ccode Tryd.prog [] (Tryd.f22.body.getD .skip) = some c22 := by kernel_rfl
theorem body22 : Tryd.f22.body = some (Tryd.f22.body.getD .skip) := rfl

theorem rcovers_C (l : PL) (x : PD) (n : Int) (N L : Nat) (hx : IsPd x l) (hd : DomP l N L) (hN : N ≤ 1000) (hL : 1 ≤ L) (hL2 : L ≤ 1000) : PureC Tryd.prog 22 [aPd x, aI n] (.ret (aB (coversP l n))) := by
  have hlen := hd.len
  have hr := rright19_C l x N L hx hd hN hL hL2
  unfold coversP
  cases c1 : rightP l with
  | false =>
    rw [c1] at hr
    refine pureC_of (rs := [(RV.tmp 4)]) Tryd.func22 (fun a w => Tryd.call22 a w) body22 cc22 (by kernel_rfl) ?_
    rw [Tryd.ntmps22]
    simp only [frs, Nat.reduceAdd, Nat.reduceSub]
    repeat (first | (with_reducible first | refine Way.imp ?_ | refine blk_o rfl ?_) | ((with_reducible refine WayR.imp (fun K hK => ?_)); simp (disch := first | omega | (simp only [dls]; omega)) only [std, reduceIte, reduceCtorEq, Int.reduceToNat, Nat.reduceAdd, Nat.reduceSub, Nat.reduceMul, Int.reduceAdd, Int.reduceSub, Int.reduceMul, Int.reduceNeg, fU]; subst hK) | refine zcA (hr) rfl rfl rfl ?_)
    exact ⟨_, rfl, rfl⟩
  | true =>
  rw [c1] at hr
  rw [Bool.true_and]
  by_cases n0 : 0 ≤ n
  rotate_left
  · rw [decide_eq_false n0]
    refine pureC_of (rs := [(RV.tmp 4)]) Tryd.func22 (fun a w => Tryd.call22 a w) body22 cc22 (by kernel_rfl) ?_
    rw [Tryd.ntmps22]
    simp only [frs, Nat.reduceAdd, Nat.reduceSub]
    repeat (first | (with_reducible first | refine Way.imp ?_ | refine blk_o rfl ?_) | ((with_reducible refine WayR.imp (fun K hK => ?_)); simp (disch := first | omega | (simp only [dls]; omega)) only [std, reduceIte, reduceCtorEq, Int.reduceToNat, Nat.reduceAdd, Nat.reduceSub, Nat.reduceMul, Int.reduceAdd, Int.reduceSub, Int.reduceMul, Int.reduceNeg, fU]; subst hK) | refine zcA (hr) rfl rfl rfl ?_)
    exact ⟨_, rfl, rfl⟩
  by_cases n1 : n ≤ 12
  rotate_left
  · rw [decide_eq_false n1, Bool.false_and, Bool.and_false]
    refine pureC_of (rs := [(RV.tmp 4)]) Tryd.func22 (fun a w => Tryd.call22 a w) body22 cc22 (by kernel_rfl) ?_
    rw [Tryd.ntmps22]
    simp only [frs, Nat.reduceAdd, Nat.reduceSub]
    repeat (first | (with_reducible first | refine Way.imp ?_ | refine blk_o rfl ?_) | ((with_reducible refine WayR.imp (fun K hK => ?_)); simp (disch := first | omega | (simp only [dls]; omega)) only [std, reduceIte, reduceCtorEq, Int.reduceToNat, Nat.reduceAdd, Nat.reduceSub, Nat.reduceMul, Int.reduceAdd, Int.reduceSub, Int.reduceMul, Int.reduceNeg, fU, show (12 < n) from by omega]; subst hK) | refine zcA (hr) rfl rfl rfl ?_)
    exact ⟨_, rfl, rfl⟩
  rw [decide_eq_true n0, decide_eq_true n1, Bool.true_and, Bool.true_and]
  have d0 : decZ (0 : Rat).num = [48] := by decide +kernel
  have d1 : dec (0 : Rat).den = [49] := by decide +kernel
  have d2 : decZ (1 : Rat).num = [49] := by decide +kernel
  have d3 : dec (1 : Rat).den = [49] := by decide +kernel
  refine pureC_of (rs := [(RV.tmp 4)]) Tryd.func22 (fun a w => Tryd.call22 a w) body22 cc22 (by kernel_rfl) ?_
  rw [Tryd.ntmps22]
  simp only [frs, Nat.reduceAdd, Nat.reduceSub]
  repeat (first | (with_reducible first | refine Way.imp ?_ | refine blk_o rfl ?_) | ((with_reducible refine WayR.imp (fun K hK => ?_)); simp (disch := first | omega | (simp only [dls]; omega)) only [std, reduceIte, reduceCtorEq, Int.reduceToNat, Nat.reduceAdd, Nat.reduceSub, Nat.reduceMul, Int.reduceAdd, Int.reduceSub, Int.reduceMul, Int.reduceNeg, fU, show ¬ (12 < n) from by omega]; subst hK) | refine zcA (hr) rfl rfl rfl ?_)
  refine awp_loop (fun (zz : Nat) => ⟨(aPd x :: aI n :: .junk :: .junk :: .junk :: aI zz :: .junk :: .junk :: .junk :: .junk :: .junk :: .junk :: .junk :: .junk :: .junk :: .junk :: .junk :: .junk :: .junk :: .junk :: .junk :: .junk :: .junk :: .junk :: .junk :: .junk :: .junk :: .junk :: .junk :: .junk :: .junk :: .junk :: []), []⟩) (fun (zz : Nat) => zz ≤ 12 ∧ allK (covAt l n) zz = true) (fun (zz : Nat) => 12 - zz) (0) ?hI1 (Fgt.head (Nat.le_refl _) [true, true, false, false, false, true] ?hT1 ?hH1) ?hB1
  case hT1 => first | (simp (disch := omega) only [hds, liveT, cleanAV, cleanCell, clean1, cleanBlk, reduceIte, Int.reduceSub, Int.reduceAdd, Int.reduceNeg]; done) | rfl
  case hH1 => first | (simp (disch := omega) only [hds, liveT, cleanAV, cleanCell, clean1, cleanBlk, reduceIte, Int.reduceSub, Int.reduceAdd, Int.reduceNeg]; done) | rfl
  · exact ⟨Nat.zero_le _, rfl⟩
  rintro k ⟨hk, hall⟩
  by_cases hke : k = 12
  · subst hke
    rw [hall]
    repeat (first | (with_reducible first | refine Way.imp ?_ | refine blk_o rfl ?_) | ((with_reducible refine WayR.imp (fun K hK => ?_)); simp (disch := first | omega | (simp only [dls]; omega)) only [std, reduceIte, reduceCtorEq, Int.reduceToNat, Nat.reduceAdd, Nat.reduceSub, Nat.reduceMul, Int.reduceAdd, Int.reduceSub, Int.reduceMul, Int.reduceNeg, fU]; subst hK))
    exact ⟨_, rfl, rfl⟩
  · have hk12 : k < 12 := by omega
    have ht := rtog_C l x k k N L hx hd hN hL hL2
    rw [togQ_in l hk12 hk12] at ht
    have hcov : covAt l n k = decide (togTo l k k (osl l).length = if (k : Int) < n then 1 else 0) := rfl
    have hstep := allK_succ (covAt l n) k
    rw [hall, Bool.true_and] at hstep
    generalize togTo l k k (osl l).length = q at *
    by_cases hkn : (k : Int) < n
    · rw [if_pos hkn] at hcov
      have he := rat_eq_beq q 1
      rw [d2, d3, ← hcov] at he
      cases hc : covAt l n k with
      | true =>
        rw [hc] at he hstep
        repeat (first | (with_reducible first | refine Way.imp ?_ | refine blk_o rfl ?_) | ((with_reducible refine WayR.imp (fun K hK => ?_)); simp (disch := first | omega | (simp only [dls]; omega)) only [std, reduceIte, reduceCtorEq, Int.reduceToNat, Nat.reduceAdd, Nat.reduceSub, Nat.reduceMul, Int.reduceAdd, Int.reduceSub, Int.reduceMul, Int.reduceNeg, fU, strCells, he]; subst hK) | refine zcA (ht) rfl rfl rfl ?_)
        refine ⟨(k + 1), ?hI2, ?hM2, Fgt.head (Nat.le_refl _) [true, true, false, false, false, true] ?hT2 ?hH2⟩
        case hT2 => first | (simp (disch := omega) only [hds, liveT, cleanAV, cleanCell, clean1, cleanBlk, reduceIte, Int.reduceSub, Int.reduceAdd, Int.reduceNeg]; done) | rfl
        case hH2 => first | (simp (disch := omega) only [hds, liveT, cleanAV, cleanCell, clean1, cleanBlk, reduceIte, Int.reduceSub, Int.reduceAdd, Int.reduceNeg]; done) | rfl
        · exact ⟨hk12, hstep⟩
        · show 12 - (k + 1) < 12 - k; omega
      | false =>
        rw [hc] at he
        rw [allK_false hk12 hc]
        repeat (first | (with_reducible first | refine Way.imp ?_ | refine blk_o rfl ?_) | ((with_reducible refine WayR.imp (fun K hK => ?_)); simp (disch := first | omega | (simp only [dls]; omega)) only [std, reduceIte, reduceCtorEq, Int.reduceToNat, Nat.reduceAdd, Nat.reduceSub, Nat.reduceMul, Int.reduceAdd, Int.reduceSub, Int.reduceMul, Int.reduceNeg, fU, strCells, he]; subst hK) | refine zcA (ht) rfl rfl rfl ?_)
        exact ⟨_, rfl, rfl⟩
    · rw [if_neg hkn] at hcov
      have he := rat_eq_beq q 0
      rw [d0, d1, ← hcov] at he
      cases hc : covAt l n k with
      | true =>
        rw [hc] at he hstep
        repeat (first | (with_reducible first | refine Way.imp ?_ | refine blk_o rfl ?_) | ((with_reducible refine WayR.imp (fun K hK => ?_)); simp (disch := first | omega | (simp only [dls]; omega)) only [std, reduceIte, reduceCtorEq, Int.reduceToNat, Nat.reduceAdd, Nat.reduceSub, Nat.reduceMul, Int.reduceAdd, Int.reduceSub, Int.reduceMul, Int.reduceNeg, fU, strCells, he]; subst hK) | refine zcA (ht) rfl rfl rfl ?_)
        refine ⟨(k + 1), ?hI3, ?hM3, Fgt.head (Nat.le_refl _) [true, true, false, false, false, true] ?hT3 ?hH3⟩
        case hT3 => first | (simp (disch := omega) only [hds, liveT, cleanAV, cleanCell, clean1, cleanBlk, reduceIte, Int.reduceSub, Int.reduceAdd, Int.reduceNeg]; done) | rfl
        case hH3 => first | (simp (disch := omega) only [hds, liveT, cleanAV, cleanCell, clean1, cleanBlk, reduceIte, Int.reduceSub, Int.reduceAdd, Int.reduceNeg]; done) | rfl
        · exact ⟨hk12, hstep⟩
        · show 12 - (k + 1) < 12 - k; omega
      | false =>
        rw [hc] at he
        rw [allK_false hk12 hc]
        repeat (first | (with_reducible first | refine Way.imp ?_ | refine blk_o rfl ?_) | ((with_reducible refine WayR.imp (fun K hK => ?_)); simp (disch := first | omega | (simp only [dls]; omega)) only [std, reduceIte, reduceCtorEq, Int.reduceToNat, Nat.reduceAdd, Nat.reduceSub, Nat.reduceMul, Int.reduceAdd, Int.reduceSub, Int.reduceMul, Int.reduceNeg, fU, strCells, he]; subst hK) | refine zcA (ht) rfl rfl rfl ?_)
        exact ⟨_, rfl, rfl⟩

end Go.Proofs.YtdhkdnmefeeclaaDoor
