/- Walks of layer 19's law: Few, of; of the document: Together. -/
import Derived.Test.YtdhkdnmefeeclaaDoorVR
import Derived.Test.YtdhkdnmefeeclaaDoorZA
set_option linter.unusedSimpArgs false
set_option linter.unusedVariables false
set_option linter.unnecessarySimpa false
set_option linter.unusedSimpArgs false
set_option linter.unusedVariables false
set_option maxRecDepth 100000
set_option maxHeartbeats 4000000
namespace Go.Proofs.YtdhkdnmefeeclaaDoor
open Go Go.Am Go.Proofs Go.RowKit Go.Off

def shortP (p : Prt) : Bool := decide ((osl p.v.size).length ≤ 3) && (decide ((osl p.v.den).length ≤ 3) && decide (0 ≤ p.set))
def fewPt (l : PL) : Bool := allK (fun i => shortP (ptAt l i)) (min (osl l).length 13) && decide ((osl l).length ≤ 12)
theorem fewPt_dom {l : PL} (h : fewPt l = true) (h64 : ∀ p ∈ osl l, p.set ≤ 9223372036854775807) : DomP l 12 3 := by
  unfold fewPt at h
  simp only [Bool.and_eq_true, decide_eq_true_eq] at h
  obtain ⟨h1, h2⟩ := h
  have key : ∀ p ∈ osl l, shortP p = true := fun p hp => by
    obtain ⟨i, hi, rfl⟩ := List.getElem_of_mem hp
    have := allK_at h1 (k := i) (by omega)
    rwa [ptAt_in hi] at this
  refine ⟨h2, fun p hp => ⟨?_, h64 p hp⟩, fun p hp => ?_⟩
  · have := key p hp
    unfold shortP at this
    simp only [Bool.and_eq_true, decide_eq_true_eq] at this
    exact this.2.2
  · have := key p hp
    unfold shortP at this
    simp only [Bool.and_eq_true, decide_eq_true_eq] at this
    exact shortR_fits (by unfold shortR; rw [decide_eq_true this.1, decide_eq_true this.2.1]; rfl)

abbrev c14_k1 : CC := (.seq (.reg [⟨(some 41), none, (.mv (.tmp 0))⟩, ⟨(some 42), none, (.len false (.tmp 41))⟩, ⟨(some 43), none, (.bin .leq (.tmp 42) (.const (.int .i64 (12))))⟩, ⟨(some 2), none, (.mv (.tmp 43))⟩]) .ret)
abbrev c14_b1 : CC := (.seq (.seq (.reg [⟨(some 4), none, (.mv (.tmp 3))⟩, ⟨(some 5), none, (.mv (.tmp 0))⟩, ⟨(some 6), none, (.len false (.tmp 5))⟩, ⟨(some 7), none, (.bin .lss (.tmp 4) (.tmp 6))⟩, ⟨(some 8), none, (.mv (.tmp 7))⟩, ⟨(some 9), (some (8, true)), (.mv (.tmp 3))⟩, ⟨(some 10), (some (8, true)), (.bin .leq (.tmp 9) (.const (.int .i64 (12))))⟩, ⟨(some 11), none, (.pick (.tmp 8) (.tmp 10) (.const (.bool false)))⟩]) (.cond (.tmp 11) .skip (.exit 0))) (.seq (.block 1 (.seq (.reg [⟨(some 14), none, (.mv (.tmp 0))⟩, ⟨(some 15), none, (.mv (.tmp 3))⟩, ⟨(some 16), none, (.iaddr 4 none (.tmp 14) (.tmp 15))⟩, ⟨(some 17), none, (.faddr 1 (.tmp 16))⟩, ⟨(some 18), none, (.faddr 0 (.tmp 17))⟩, ⟨(some 19), none, (.faddr 1 (.tmp 18))⟩, ⟨(some 20), none, (.load 1 false (.tmp 19))⟩, ⟨(some 21), none, (.len false (.tmp 20))⟩, ⟨(some 22), none, (.bin .gtr (.tmp 21) (.const (.int .i64 (3))))⟩, ⟨(some 23), none, (.mv (.tmp 22))⟩, ⟨(some 24), (some (23, false)), (.mv (.tmp 0))⟩, ⟨(some 25), (some (23, false)), (.mv (.tmp 3))⟩, ⟨(some 26), (some (23, false)), (.iaddr 4 none (.tmp 24) (.tmp 25))⟩, ⟨(some 27), (some (23, false)), (.faddr 1 (.tmp 26))⟩, ⟨(some 28), (some (23, false)), (.faddr 2 (.tmp 27))⟩, ⟨(some 29), (some (23, false)), (.load 1 false (.tmp 28))⟩, ⟨(some 30), (some (23, false)), (.len false (.tmp 29))⟩, ⟨(some 31), (some (23, false)), (.bin .gtr (.tmp 30) (.const (.int .i64 (3))))⟩, ⟨(some 32), none, (.pick (.tmp 23) (.const (.bool true)) (.tmp 31))⟩, ⟨(some 33), none, (.mv (.tmp 32))⟩, ⟨(some 34), (some (33, false)), (.mv (.tmp 0))⟩, ⟨(some 35), (some (33, false)), (.mv (.tmp 3))⟩, ⟨(some 36), (some (33, false)), (.iaddr 4 none (.tmp 34) (.tmp 35))⟩, ⟨(some 37), (some (33, false)), (.faddr 0 (.tmp 36))⟩, ⟨(some 38), (some (33, false)), (.load 1 false (.tmp 37))⟩, ⟨(some 39), (some (33, false)), (.bin .lss (.tmp 38) (.const (.int .i64 (0))))⟩, ⟨(some 40), none, (.pick (.tmp 33) (.const (.bool true)) (.tmp 39))⟩]) (.cond (.tmp 40) (.seq (.reg [⟨(some 2), none, (.mv (.const (.bool false)))⟩]) .ret) .skip))) (.reg [⟨(some 12), none, (.mv (.tmp 3))⟩, ⟨(some 13), none, (.bin .add (.tmp 12) (.const (.int .i64 (1))))⟩, ⟨(some 3), none, (.mv (.tmp 13))⟩])))
abbrev c14 : CC := (.seq (.reg [⟨(some 2), none, (.mv (.const (.bool false)))⟩]) (.seq (.seq (.reg [⟨(some 3), none, (.mv (.const (.int .i64 (0))))⟩]) (.block 0 (.loop c14_b1))) c14_k1))
theorem cc14 : ccode Tryd.prog [] (Tryd.f14.body.getD .skip) = some c14 := by kernel_rfl
theorem body14 : Tryd.f14.body = some (Tryd.f14.body.getD .skip) := rfl

theorem few19_C (l : PL) : PureC Tryd.prog 14 [aPl l] (.ret (aB (fewPt l))) := by
  unfold fewPt
  refine pureC_of (rs := [(RV.tmp 2)]) Tryd.func14 (fun a w => Tryd.call14 a w) body14 cc14 (by kernel_rfl) ?_
  rw [Tryd.ntmps14]
  simp only [frs, Nat.reduceAdd, Nat.reduceSub]
  repeat (first | (with_reducible first | refine Way.imp ?_ | refine blk_o rfl ?_) | ((with_reducible refine WayR.imp (fun K hK => ?_)); simp (disch := first | omega | (simp only [dls]; omega)) only [std, reduceIte, reduceCtorEq, Int.reduceToNat, Nat.reduceAdd, Nat.reduceSub, Nat.reduceMul, Int.reduceAdd, Int.reduceSub, Int.reduceMul, Int.reduceNeg, fU]; subst hK))
  refine awp_loop (fun (zz : Nat) => ⟨(aPl l :: .junk :: aB false :: aI zz :: .junk :: .junk :: .junk :: .junk :: .junk :: .junk :: .junk :: .junk :: .junk :: .junk :: .junk :: .junk :: .junk :: .junk :: .junk :: .junk :: .junk :: .junk :: .junk :: .junk :: .junk :: .junk :: .junk :: .junk :: .junk :: .junk :: .junk :: .junk :: .junk :: .junk :: .junk :: .junk :: .junk :: .junk :: .junk :: .junk :: .junk :: .junk :: .junk :: .junk :: []), []⟩) (fun (zz : Nat) => zz ≤ min (osl l).length 13 ∧ allK (fun zz => shortP (ptAt l zz)) zz = true) (fun (zz : Nat) => 14 - zz) (0) ?hI1 (Fgt.head (Nat.le_refl _) [true, false, true, true] ?hT1 ?hH1) ?hB1
  case hT1 => first | (simp (disch := omega) only [hds, liveT, cleanAV, cleanCell, clean1, cleanBlk, reduceIte, Int.reduceSub, Int.reduceAdd, Int.reduceNeg]; done) | rfl
  case hH1 => first | (simp (disch := omega) only [hds, liveT, cleanAV, cleanCell, clean1, cleanBlk, reduceIte, Int.reduceSub, Int.reduceAdd, Int.reduceNeg]; done) | rfl
  · exact ⟨Nat.zero_le _, rfl⟩
  rintro i ⟨hi, hall⟩
  by_cases h1 : i < (osl l).length
  · by_cases h2 : i ≤ 12
    · have hstep := allK_succ (fun i => shortP (ptAt l i)) i
      rw [hall, Bool.true_and, ptAt_in h1] at hstep
      have hno : shortP (osl l)[i] = false → allK (fun i => shortP (ptAt l i)) (min (osl l).length 13) = false := fun h => allK_false (show i < min (osl l).length 13 by omega) (by rw [ptAt_in h1]; exact h)
      have hsp : shortP (osl l)[i] = (decide ((osl (osl l)[i].v.size).length ≤ 3) && (decide ((osl (osl l)[i].v.den).length ≤ 3) && decide (0 ≤ (osl l)[i].set))) := rfl
      by_cases s1 : (osl (osl l)[i].v.size).length ≤ 3
      · by_cases s2 : (osl (osl l)[i].v.den).length ≤ 3
        · by_cases s3 : 0 ≤ (osl l)[i].set
          · repeat (first | (with_reducible first | refine Way.imp ?_ | refine blk_o rfl ?_) | ((with_reducible refine WayR.imp (fun K hK => ?_)); simp (disch := first | omega | (simp only [dls]; omega)) only [std, reduceIte, reduceCtorEq, Int.reduceToNat, Nat.reduceAdd, Nat.reduceSub, Nat.reduceMul, Int.reduceAdd, Int.reduceSub, Int.reduceMul, Int.reduceNeg, fU, fPt]; subst hK))
            refine ⟨(i + 1), ?hI2, ?hM2, Fgt.head (Nat.le_refl _) [true, false, true, true] ?hT2 ?hH2⟩
            case hT2 => first | (simp (disch := omega) only [hds, liveT, cleanAV, cleanCell, clean1, cleanBlk, reduceIte, Int.reduceSub, Int.reduceAdd, Int.reduceNeg]; done) | rfl
            case hH2 => first | (simp (disch := omega) only [hds, liveT, cleanAV, cleanCell, clean1, cleanBlk, reduceIte, Int.reduceSub, Int.reduceAdd, Int.reduceNeg]; done) | rfl
            · exact ⟨by omega, by rw [hstep, hsp, decide_eq_true s1, decide_eq_true s2, decide_eq_true s3]; rfl⟩
            · show 14 - (i + 1) < 14 - i; omega
          · rw [hno (by rw [hsp, decide_eq_false s3]; simp), Bool.false_and]
            repeat (first | (with_reducible first | refine Way.imp ?_ | refine blk_o rfl ?_) | ((with_reducible refine WayR.imp (fun K hK => ?_)); simp (disch := first | omega | (simp only [dls]; omega)) only [std, reduceIte, reduceCtorEq, Int.reduceToNat, Nat.reduceAdd, Nat.reduceSub, Nat.reduceMul, Int.reduceAdd, Int.reduceSub, Int.reduceMul, Int.reduceNeg, fU, fPt]; subst hK))
            exact ⟨_, rfl, rfl⟩
        · rw [hno (by rw [hsp, decide_eq_false s2]; simp), Bool.false_and]
          repeat (first | (with_reducible first | refine Way.imp ?_ | refine blk_o rfl ?_) | ((with_reducible refine WayR.imp (fun K hK => ?_)); simp (disch := first | omega | (simp only [dls]; omega)) only [std, reduceIte, reduceCtorEq, Int.reduceToNat, Nat.reduceAdd, Nat.reduceSub, Nat.reduceMul, Int.reduceAdd, Int.reduceSub, Int.reduceMul, Int.reduceNeg, fU, fPt]; subst hK))
          exact ⟨_, rfl, rfl⟩
      · rw [hno (by rw [hsp, decide_eq_false s1]; simp), Bool.false_and]
        repeat (first | (with_reducible first | refine Way.imp ?_ | refine blk_o rfl ?_) | ((with_reducible refine WayR.imp (fun K hK => ?_)); simp (disch := first | omega | (simp only [dls]; omega)) only [std, reduceIte, reduceCtorEq, Int.reduceToNat, Nat.reduceAdd, Nat.reduceSub, Nat.reduceMul, Int.reduceAdd, Int.reduceSub, Int.reduceMul, Int.reduceNeg, fU, fPt]; subst hK))
        exact ⟨_, rfl, rfl⟩
    · have h9 : i = min (osl l).length 13 := by omega
      rw [← h9, hall, Bool.true_and, decide_eq_false (show ¬ (osl l).length ≤ 12 by omega)]
      repeat (first | (with_reducible first | refine Way.imp ?_ | refine blk_o rfl ?_) | ((with_reducible refine WayR.imp (fun K hK => ?_)); simp (disch := first | omega | (simp only [dls]; omega)) only [std, reduceIte, reduceCtorEq, Int.reduceToNat, Nat.reduceAdd, Nat.reduceSub, Nat.reduceMul, Int.reduceAdd, Int.reduceSub, Int.reduceMul, Int.reduceNeg, fU]; subst hK))
      exact ⟨_, rfl, rfl⟩
  · have h9 : i = min (osl l).length 13 := by omega
    by_cases h12 : (osl l).length ≤ 12
    · rw [← h9, hall, Bool.true_and, decide_eq_true h12]
      repeat (first | (with_reducible first | refine Way.imp ?_ | refine blk_o rfl ?_) | ((with_reducible refine WayR.imp (fun K hK => ?_)); simp (disch := first | omega | (simp only [dls]; omega)) only [std, reduceIte, reduceCtorEq, Int.reduceToNat, Nat.reduceAdd, Nat.reduceSub, Nat.reduceMul, Int.reduceAdd, Int.reduceSub, Int.reduceMul, Int.reduceNeg, fU]; subst hK))
      exact ⟨_, rfl, rfl⟩
    · rw [← h9, hall, Bool.true_and, decide_eq_false h12]
      repeat (first | (with_reducible first | refine Way.imp ?_ | refine blk_o rfl ?_) | ((with_reducible refine WayR.imp (fun K hK => ?_)); simp (disch := first | omega | (simp only [dls]; omega)) only [std, reduceIte, reduceCtorEq, Int.reduceToNat, Nat.reduceAdd, Nat.reduceSub, Nat.reduceMul, Int.reduceAdd, Int.reduceSub, Int.reduceMul, Int.reduceNeg, fU]; subst hK))
      exact ⟨_, rfl, rfl⟩

/-- A mix as the document has it. -/
def fPd (x : Int × Rat) : List CV := [.val (.int .i64 x.1), .str (decZ x.2.num), .str (dec x.2.den)]
abbrev PD := Option (List (Int × Rat))
abbrev aPd (x : PD) : AV := .one (.c (encSl 3 fPd x))
def ofP (l : PL) (n : Nat) : List (Int × Rat) := (List.range n).map (fun i => (((sAt l i : Nat) : Int), vAt l i))
theorem ofP_succ (l : PL) (n : Nat) : ofP l (n + 1) = ofP l n ++ [(((sAt l n : Nat) : Int), vAt l n)] := by
  unfold ofP
  rw [List.range_succ, List.map_append]; rfl
theorem ofP_len (l : PL) (n : Nat) : (ofP l n).length = n := by unfold ofP; rw [List.length_map, List.length_range]

abbrev c17_k1 : CC := (.seq (.reg [⟨(some 22), none, (.mv (.tmp 3))⟩, ⟨(some 2), none, (.mv (.tmp 22))⟩]) .ret)
abbrev c17_b1 : CC := (.seq (.reg [⟨(some 9), none, (.bin .lss (.tmp 8) (.tmp 7))⟩]) (.seq (.cond (.tmp 9) .skip (.exit 0)) (.seq (.block 1 (.seq (.reg [⟨(some 10), none, (.iaddr 4 none (.tmp 6) (.tmp 8))⟩, ⟨(some 11), none, (.load 4 true (.tmp 10))⟩, ⟨(some 5), none, (.new 50 [(.int .i64 (0)), (.bool false), (.slice none 0 0), (.slice none 0 0)])⟩, ⟨none, none, (.store 4 (.tmp 5) (.tmp 11))⟩]) (.reg [⟨(some 12), none, (.mv (.tmp 3))⟩, ⟨(some 13), none, (.faddr 0 (.tmp 5))⟩, ⟨(some 14), none, (.load 1 false (.tmp 13))⟩, ⟨(some 15), none, (.faddr 1 (.tmp 5))⟩, ⟨(some 16), none, (.load 3 true (.tmp 15))⟩, ⟨(some 17), none, (.callf (.func 50) [(.tmp 16)])⟩, ⟨(some 18), none, (.build [(.int .i64 (0)), (.string ⟨#[]⟩), (.string ⟨#[]⟩)] [(0, (1, (.tmp 14))), (1, (2, (.tmp 17)))])⟩, ⟨(some 19), none, (.mkrow 36 3 [(.tmp 18)])⟩, ⟨(some 20), none, (.append 36 3 40 (.tmp 12) (.tmp 19))⟩, ⟨(some 3), none, (.mv (.tmp 20))⟩]))) (.reg [⟨(some 21), none, (.bin .add (.tmp 8) (.const (.int .i64 (1))))⟩, ⟨(some 8), none, (.mv (.tmp 21))⟩]))))
abbrev c17 : CC := (.seq (.reg [⟨(some 2), none, (.mv (.const (.slice none 0 0)))⟩]) (.seq (.reg [⟨(some 3), none, (.mv (.const (.slice none 0 0)))⟩]) (.seq (.seq (.reg [⟨(some 6), none, (.mv (.tmp 0))⟩, ⟨(some 7), none, (.len false (.tmp 6))⟩, ⟨(some 8), none, (.mv (.const (.int .i64 (0))))⟩]) (.block 0 (.loop c17_b1))) c17_k1)))
theorem cc17 : ccode Tryd.prog [] (Tryd.f17.body.getD .skip) = some c17 := by kernel_rfl
theorem body17 : Tryd.f17.body = some (Tryd.f17.body.getD .skip) := rfl

theorem of19_C (l : PL) (N L : Nat) (hd : DomP l N L) (hN : N ≤ 1000) (hL : 1 ≤ L) (hL2 : L ≤ 1000) : PureC Tryd.prog 17 [aPl l] (.ret (aPd (rowO (ofP l (osl l).length)))) := by
  have hlen := hd.len
  refine PureC.fresh_rowO (ty := 36) (e := 3) ?_
  refine pureC_of (rs := [(RV.tmp 2)]) Tryd.func17 (fun a w => Tryd.call17 a w) body17 cc17 (by kernel_rfl) ?_
  rw [Tryd.ntmps17]
  simp only [frs, Nat.reduceAdd, Nat.reduceSub]
  repeat (first | (with_reducible first | refine Way.imp ?_ | refine blk_o rfl ?_) | ((with_reducible refine WayR.imp (fun K hK => ?_)); simp (disch := first | omega | (simp only [dls]; omega)) only [std, reduceIte, reduceCtorEq, Int.reduceToNat, Nat.reduceAdd, Nat.reduceSub, Nat.reduceMul, Int.reduceAdd, Int.reduceSub, Int.reduceMul, Int.reduceNeg, fU]; subst hK))
  refine AWp.fgt ?_ (Fgt.openNil (i := 3) rfl 36 3)
  simp only [List.set_cons_succ, List.set_cons_zero, List.length_nil, List.length_cons, List.nil_append, List.cons_append, Nat.reduceAdd]
  refine awp_loop (fun (zz : Nat × (List (Int × Rat)) × Nat × Bool) => ⟨(.junk :: .junk :: .junk :: .one (.own 0 zz.2.2.1) :: .junk :: .junk :: aPl l :: aI (osl l).length :: aI zz.1 :: .junk :: .junk :: .junk :: .junk :: .junk :: .junk :: .junk :: .junk :: .junk :: .junk :: .junk :: .junk :: .junk :: .junk :: []), [⟨zz.2.2.1, 36, 3, encB fPd zz.2.1, true, zz.2.2.2⟩]⟩) (fun (zz : Nat × (List (Int × Rat)) × Nat × Bool) => zz.1 ≤ (osl l).length ∧ zz.2.1 = ofP l zz.1 ∧ zz.2.2.2 = !zz.2.1.isEmpty) (fun (zz : Nat × (List (Int × Rat)) × Nat × Bool) => (osl l).length - zz.1) (0, [], 0, false) ?hI3 (Fgt.head (Nat.zero_le 1) [false, false, false, true, false, false, true, true, true] ?hT3 ?hH3) ?hB3
  case hT3 => first | (simp (disch := omega) only [hds, liveT, cleanAV, cleanCell, clean1, cleanBlk, reduceIte, Int.reduceSub, Int.reduceAdd, Int.reduceNeg, encB_nil]; done) | rfl
  case hH3 => first | (simp (disch := omega) only [hds, liveT, cleanAV, cleanCell, clean1, cleanBlk, reduceIte, Int.reduceSub, Int.reduceAdd, Int.reduceNeg, encB_nil]; done) | rfl
  · dsimp only; exact ⟨Nat.zero_le _, rfl, rfl⟩
  rintro ⟨i, out, v, nn⟩ ⟨hi, ho, hnn⟩
  dsimp only at hi ho hnn
  by_cases hie : i = (osl l).length
  · repeat (first | (with_reducible first | refine Way.imp ?_ | refine blk_o rfl ?_) | ((with_reducible refine WayR.imp (fun K hK => ?_)); simp (disch := first | omega | (simp only [dls]; omega)) only [std, reduceIte, reduceCtorEq, Int.reduceToNat, Nat.reduceAdd, Nat.reduceSub, Nat.reduceMul, Int.reduceAdd, Int.reduceSub, Int.reduceMul, Int.reduceNeg, fU]; subst hK))
    refine ⟨_, rfl, ?_⟩
    rw [hnn, ho, hie]
    exact Ends.fresh_enc rfl
  · have hlt : i < (osl l).length := by omega
    obtain ⟨a1, a2, a3, a4⟩ := hd.at hlt
    have hs := lof_C (osl l)[i].v (a3.mono (by omega))
    rw [a4] at hs
    have hsu := ofP_succ l i
    have hol : out.length ≤ 1000 := by rw [ho, ofP_len]; omega
    generalize vAt l i = q at *
    have eA : encB fPd out ++ [[Cell.c (.val (.int .i64 ((sAt l i : Nat) : Int))), Cell.c (.str (decZ q.num)), Cell.c (.str (dec q.den))]] = encB fPd (out ++ [(((sAt l i : Nat) : Int), q)]) := by rw [← encB_append]; rfl
    repeat (first | (with_reducible first | refine Way.imp ?_ | refine blk_o rfl ?_) | ((with_reducible refine WayR.imp (fun K hK => ?_)); simp (disch := first | omega | (simp only [dls]; omega)) only [std, reduceIte, reduceCtorEq, Int.reduceToNat, Nat.reduceAdd, Nat.reduceSub, Nat.reduceMul, Int.reduceAdd, Int.reduceSub, Int.reduceMul, Int.reduceNeg, fU, fPt, a1]; subst hK) | refine zcA (hs) rfl rfl rfl ?_)
    refine ⟨(i + 1, out ++ [(((sAt l i : Nat) : Int), q)], v + 1, true), ?hI4, ?hM4, Fgt.head (Nat.zero_le 1) [false, false, false, true, false, false, true, true, true] ?hT4 ?hH4⟩
    case hT4 => first | (simp (disch := omega) only [hds, liveT, cleanAV, cleanCell, clean1, cleanBlk, reduceIte, Int.reduceSub, Int.reduceAdd, Int.reduceNeg, eA, List.isEmpty_cons, Bool.or_true, Bool.not_false]; done) | rfl
    case hH4 => first | (simp (disch := omega) only [hds, liveT, cleanAV, cleanCell, clean1, cleanBlk, reduceIte, Int.reduceSub, Int.reduceAdd, Int.reduceNeg, eA, List.isEmpty_cons, Bool.or_true, Bool.not_false]; done) | rfl
    · dsimp only; exact ⟨hlt, by rw [hsu, ho], by cases out <;> rfl⟩
    · dsimp only; omega

/-- The document's mix is the mix. -/
def IsPd (x : PD) (l : PL) : Prop := (osl x).length = (osl l).length ∧ ∀ i (h : i < (osl x).length), (osl x)[i] = (((sAt l i : Nat) : Int), vAt l i)
theorem isPd_of (l : PL) : IsPd (rowO (ofP l (osl l).length)) l := by
  refine ⟨by rw [osl_rowO, ofP_len], fun i h => ?_⟩
  have hi : i < (ofP l (osl l).length).length := by rwa [osl_rowO] at h
  simp [osl_rowO, ofP]

abbrev c18_k1 : CC := (.seq (.reg [⟨(some 54), none, (.load 2 true (.tmp 7))⟩, ⟨none, none, (.store 2 (.tmp 6) (.tmp 54))⟩]) .ret)
abbrev c18_b1 : CC := (.seq (.seq (.reg [⟨(some 25), none, (.mv (.tmp 8))⟩, ⟨(some 26), none, (.mv (.tmp 0))⟩, ⟨(some 27), none, (.len false (.tmp 26))⟩, ⟨(some 28), none, (.bin .lss (.tmp 25) (.tmp 27))⟩]) (.cond (.tmp 28) .skip (.exit 0))) (.seq (.block 1 (.seq (.reg [⟨(some 31), none, (.mv (.tmp 0))⟩, ⟨(some 32), none, (.mv (.tmp 8))⟩, ⟨(some 33), none, (.iaddr 3 none (.tmp 31) (.tmp 32))⟩, ⟨(some 34), none, (.faddr 0 (.tmp 33))⟩, ⟨(some 35), none, (.load 1 false (.tmp 34))⟩, ⟨(some 36), none, (.mv (.tmp 1))⟩, ⟨(some 37), none, (.callf (.func 37) [(.tmp 35), (.tmp 36)])⟩, ⟨(some 38), none, (.mv (.tmp 37))⟩, ⟨(some 39), (some (38, true)), (.mv (.tmp 0))⟩, ⟨(some 40), (some (38, true)), (.mv (.tmp 8))⟩, ⟨(some 41), (some (38, true)), (.iaddr 3 none (.tmp 39) (.tmp 40))⟩, ⟨(some 42), (some (38, true)), (.faddr 0 (.tmp 41))⟩, ⟨(some 43), (some (38, true)), (.load 1 false (.tmp 42))⟩, ⟨(some 44), (some (38, true)), (.mv (.tmp 2))⟩, ⟨(some 45), (some (38, true)), (.callf (.func 37) [(.tmp 43), (.tmp 44)])⟩, ⟨(some 46), none, (.pick (.tmp 38) (.tmp 45) (.const (.bool false)))⟩]) (.cond (.tmp 46) (.reg [⟨(some 47), none, (.load 2 true (.tmp 7))⟩, ⟨(some 48), none, (.mv (.tmp 0))⟩, ⟨(some 49), none, (.mv (.tmp 8))⟩, ⟨(some 50), none, (.iaddr 3 none (.tmp 48) (.tmp 49))⟩, ⟨(some 51), none, (.faddr 1 (.tmp 50))⟩, ⟨(some 52), none, (.load 2 true (.tmp 51))⟩, ⟨(some 53), none, (.callf (.func 51) [(.tmp 47), (.tmp 52)])⟩, ⟨none, none, (.store 2 (.tmp 7) (.tmp 53))⟩]) .skip))) (.reg [⟨(some 29), none, (.mv (.tmp 8))⟩, ⟨(some 30), none, (.bin .add (.tmp 29) (.const (.int .i64 (1))))⟩, ⟨(some 8), none, (.mv (.tmp 30))⟩])))
abbrev c18 : CC := (.seq (.reg [⟨(some 6), none, (.new 28 [(.string ⟨#[]⟩), (.string ⟨#[]⟩)])⟩]) (.seq (.reg [⟨(some 9), none, (.build [(.string ⟨#[]⟩), (.string ⟨#[]⟩)] [(0, (1, (.const (.string ⟨#[48]⟩)))), (1, (1, (.const (.string ⟨#[49]⟩))))])⟩, ⟨(some 7), none, (.new 28 [(.string ⟨#[]⟩), (.string ⟨#[]⟩)])⟩, ⟨none, none, (.store 2 (.tmp 7) (.tmp 9))⟩]) (.seq (.seq (.reg [⟨(some 10), none, (.mv (.tmp 1))⟩, ⟨(some 11), none, (.bin .lss (.tmp 10) (.const (.int .i64 (0))))⟩, ⟨(some 12), none, (.mv (.tmp 11))⟩, ⟨(some 13), (some (12, false)), (.mv (.tmp 1))⟩, ⟨(some 14), (some (12, false)), (.bin .gtr (.tmp 13) (.const (.int .i64 (11))))⟩, ⟨(some 15), none, (.pick (.tmp 12) (.const (.bool true)) (.tmp 14))⟩, ⟨(some 16), none, (.mv (.tmp 15))⟩, ⟨(some 17), (some (16, false)), (.mv (.tmp 2))⟩, ⟨(some 18), (some (16, false)), (.bin .lss (.tmp 17) (.const (.int .i64 (0))))⟩, ⟨(some 19), none, (.pick (.tmp 16) (.const (.bool true)) (.tmp 18))⟩, ⟨(some 20), none, (.mv (.tmp 19))⟩, ⟨(some 21), (some (20, false)), (.mv (.tmp 2))⟩, ⟨(some 22), (some (20, false)), (.bin .gtr (.tmp 21) (.const (.int .i64 (11))))⟩, ⟨(some 23), none, (.pick (.tmp 20) (.const (.bool true)) (.tmp 22))⟩]) (.cond (.tmp 23) (.seq (.reg [⟨(some 24), none, (.load 2 true (.tmp 7))⟩, ⟨none, none, (.store 2 (.tmp 6) (.tmp 24))⟩]) .ret) .skip)) (.seq (.seq (.reg [⟨(some 8), none, (.mv (.const (.int .i64 (0))))⟩]) (.block 0 (.loop c18_b1))) c18_k1))))
theorem cc18 : ccode Tryd.prog [] (Tryd.f18.body.getD .skip) = some c18 := by kernel_rfl
theorem body18 : Tryd.f18.body = some (Tryd.f18.body.getD .skip) := rfl

theorem rtog_C (l : PL) (x : PD) (a b : Int) (N L : Nat) (hx : IsPd x l) (hd : DomP l N L) (hN : N ≤ 1000) (hL : 1 ≤ L) (hL2 : L ≤ 1000) : PureC Tryd.prog 18 [aPd x, aI a, aI b] (.ret (aQ (togQ l a b))) := by
  have d0 : decZ (0 : Rat).num = [48] := by decide +kernel
  have d1 : dec (0 : Rat).den = [49] := by decide +kernel
  unfold togQ
  by_cases c1 : 0 ≤ a ∧ a < 12
  rotate_left
  · have e : itemK a = false := by unfold itemK; rw [← Bool.decide_and, decide_eq_false c1]
    rw [e, if_neg (by simp)]
    by_cases c3 : a < 0
    · refine pureC_of (rs := [(RV.cell 6 2 true)]) Tryd.func18 (fun a w => Tryd.call18 a w) body18 cc18 (by kernel_rfl) ?_
      rw [Tryd.ntmps18]
      simp only [frs, Nat.reduceAdd, Nat.reduceSub]
      repeat (first | (with_reducible first | refine Way.imp ?_ | refine blk_o rfl ?_) | ((with_reducible refine WayR.imp (fun K hK => ?_)); simp (disch := first | omega | (simp only [dls]; omega)) only [std, reduceIte, reduceCtorEq, Int.reduceToNat, Nat.reduceAdd, Nat.reduceSub, Nat.reduceMul, Int.reduceAdd, Int.reduceSub, Int.reduceMul, Int.reduceNeg, fU, d0, d1]; subst hK))
      refine ⟨_, rfl, ?_⟩
      simp only [aQ, d0, d1]
      rfl
    · refine pureC_of (rs := [(RV.cell 6 2 true)]) Tryd.func18 (fun a w => Tryd.call18 a w) body18 cc18 (by kernel_rfl) ?_
      rw [Tryd.ntmps18]
      simp only [frs, Nat.reduceAdd, Nat.reduceSub]
      repeat (first | (with_reducible first | refine Way.imp ?_ | refine blk_o rfl ?_) | ((with_reducible refine WayR.imp (fun K hK => ?_)); simp (disch := first | omega | (simp only [dls]; omega)) only [std, reduceIte, reduceCtorEq, Int.reduceToNat, Nat.reduceAdd, Nat.reduceSub, Nat.reduceMul, Int.reduceAdd, Int.reduceSub, Int.reduceMul, Int.reduceNeg, fU, d0, d1, show (11 < a) from by omega]; subst hK))
      refine ⟨_, rfl, ?_⟩
      simp only [aQ, d0, d1]
      rfl
  by_cases c2 : 0 ≤ b ∧ b < 12
  rotate_left
  · have e : itemK b = false := by unfold itemK; rw [← Bool.decide_and, decide_eq_false c2]
    rw [e, if_neg (by simp)]
    by_cases c3 : b < 0
    · refine pureC_of (rs := [(RV.cell 6 2 true)]) Tryd.func18 (fun a w => Tryd.call18 a w) body18 cc18 (by kernel_rfl) ?_
      rw [Tryd.ntmps18]
      simp only [frs, Nat.reduceAdd, Nat.reduceSub]
      repeat (first | (with_reducible first | refine Way.imp ?_ | refine blk_o rfl ?_) | ((with_reducible refine WayR.imp (fun K hK => ?_)); simp (disch := first | omega | (simp only [dls]; omega)) only [std, reduceIte, reduceCtorEq, Int.reduceToNat, Nat.reduceAdd, Nat.reduceSub, Nat.reduceMul, Int.reduceAdd, Int.reduceSub, Int.reduceMul, Int.reduceNeg, fU, d0, d1]; subst hK))
      refine ⟨_, rfl, ?_⟩
      simp only [aQ, d0, d1]
      rfl
    · refine pureC_of (rs := [(RV.cell 6 2 true)]) Tryd.func18 (fun a w => Tryd.call18 a w) body18 cc18 (by kernel_rfl) ?_
      rw [Tryd.ntmps18]
      simp only [frs, Nat.reduceAdd, Nat.reduceSub]
      repeat (first | (with_reducible first | refine Way.imp ?_ | refine blk_o rfl ?_) | ((with_reducible refine WayR.imp (fun K hK => ?_)); simp (disch := first | omega | (simp only [dls]; omega)) only [std, reduceIte, reduceCtorEq, Int.reduceToNat, Nat.reduceAdd, Nat.reduceSub, Nat.reduceMul, Int.reduceAdd, Int.reduceSub, Int.reduceMul, Int.reduceNeg, fU, d0, d1, show (11 < b) from by omega]; subst hK))
      refine ⟨_, rfl, ?_⟩
      simp only [aQ, d0, d1]
      rfl
  have ca : itemK a = true := by unfold itemK; rw [← Bool.decide_and, decide_eq_true c1]
  have cb : itemK b = true := by unfold itemK; rw [← Bool.decide_and, decide_eq_true c2]
  rw [ca, cb, if_pos (show (true && true) = true from rfl)]
  obtain ⟨y, rfl⟩ : ∃ y : Nat, a = (y : Int) := ⟨a.toNat, by omega⟩
  obtain ⟨z, rfl⟩ : ∃ z : Nat, b = (z : Int) := ⟨b.toNat, by omega⟩
  rw [Int.toNat_natCast, Int.toNat_natCast]
  have hz : togTo l y z 0 = 0 := rfl
  have hlen := hd.len
  obtain ⟨hxl, hxi⟩ := hx
  refine pureC_of (rs := [(RV.cell 6 2 true)]) Tryd.func18 (fun a w => Tryd.call18 a w) body18 cc18 (by kernel_rfl) ?_
  rw [Tryd.ntmps18]
  simp only [frs, Nat.reduceAdd, Nat.reduceSub]
  repeat (first | (with_reducible first | refine Way.imp ?_ | refine blk_o rfl ?_) | ((with_reducible refine WayR.imp (fun K hK => ?_)); simp (disch := first | omega | (simp only [dls]; omega)) only [std, reduceIte, reduceCtorEq, Int.reduceToNat, Nat.reduceAdd, Nat.reduceSub, Nat.reduceMul, Int.reduceAdd, Int.reduceSub, Int.reduceMul, Int.reduceNeg, fU]; subst hK))
  refine awp_loop (fun (zz : Nat) => ⟨(aPd x :: aI y :: aI z :: .junk :: .junk :: .junk :: .one (.ptr 0 0 0 0) :: .one (.ptr 1 0 0 0) :: aI zz :: .junk :: .junk :: .junk :: .junk :: .junk :: .junk :: .junk :: .junk :: .junk :: .junk :: .junk :: .junk :: .junk :: .junk :: .junk :: .junk :: .junk :: .junk :: .junk :: .junk :: .junk :: .junk :: .junk :: .junk :: .junk :: .junk :: .junk :: .junk :: .junk :: .junk :: .junk :: .junk :: .junk :: .junk :: .junk :: .junk :: .junk :: .junk :: .junk :: .junk :: .junk :: .junk :: .junk :: .junk :: .junk :: .junk :: []), [⟨0, 28, 2, [[.c (.val (.string ⟨#[]⟩)), .c (.val (.string ⟨#[]⟩))]], true, true⟩, ⟨0, 28, 2, [[.c (.str (decZ (togTo l y z zz).num)), .c (.str (dec (togTo l y z zz).den))]], true, true⟩]⟩) (fun (zz : Nat) => zz ≤ (osl l).length) (fun (zz : Nat) => (osl l).length - zz) (0) ?hI5 (Fgt.head (Nat.zero_le 2) [true, true, true, false, false, false, true, true, true] ?hT5 ?hH5) ?hB5
  case hT5 => first | (simp (disch := omega) only [hds, liveT, cleanAV, cleanCell, clean1, cleanBlk, reduceIte, Int.reduceSub, Int.reduceAdd, Int.reduceNeg, hz, d0, d1]; done) | rfl
  case hH5 => first | (simp (disch := omega) only [hds, liveT, cleanAV, cleanCell, clean1, cleanBlk, reduceIte, Int.reduceSub, Int.reduceAdd, Int.reduceNeg, hz, d0, d1]; done) | rfl
  · exact Nat.zero_le _
  rintro i hi
  by_cases hie : i = (osl l).length
  · rw [← hie]
    repeat (first | (with_reducible first | refine Way.imp ?_ | refine blk_o rfl ?_) | ((with_reducible refine WayR.imp (fun K hK => ?_)); simp (disch := first | omega | (simp only [dls]; omega)) only [std, reduceIte, reduceCtorEq, Int.reduceToNat, Nat.reduceAdd, Nat.reduceSub, Nat.reduceMul, Int.reduceAdd, Int.reduceSub, Int.reduceMul, Int.reduceNeg, fU, hxl]; subst hK))
    exact ⟨_, rfl, rfl⟩
  · have hlt : i < (osl l).length := by omega
    have hltx : i < (osl x).length := by omega
    obtain ⟨a1, a2, a3, a4⟩ := hd.at hlt
    have hft := fits_tog hd hL y z i hi
    have hiL : i * (L + 1) ≤ 1000 * 1001 := Nat.mul_le_mul (by omega) (by omega)
    have hfv : FitsQ (vAt l i) L := by rw [← a4]; exact a3.val hL
    have hadd := qadd_C (togTo l y z i) (vAt l i) (hft.mono (by omega)) (hfv.mono (by omega))
    have hin1 := in_C (sAt l i) y (by omega) (by omega)
    have hin2 := in_C (sAt l i) z (by omega) (by omega)
    have hxe := hxi i hltx
    have hstep : togTo l y z (i + 1) = if hasB l y z i then togTo l y z i + vAt l i else togTo l y z i := rfl
    unfold hasB at hstep
    generalize togTo l y z i = s at *
    generalize vAt l i = v at *
    cases e1 : bitN (sAt l i) y with
    | false =>
      rw [e1] at hin1 hstep
      rw [if_neg (by simp)] at hstep
      repeat (first | (with_reducible first | refine Way.imp ?_ | refine blk_o rfl ?_) | ((with_reducible refine WayR.imp (fun K hK => ?_)); simp (disch := first | omega | (simp only [dls]; omega)) only [std, reduceIte, reduceCtorEq, Int.reduceToNat, Nat.reduceAdd, Nat.reduceSub, Nat.reduceMul, Int.reduceAdd, Int.reduceSub, Int.reduceMul, Int.reduceNeg, fU, fPd, hxl, hxe]; subst hK) | refine zcA (hin1) rfl rfl rfl ?_ | (apply call_any_g (hin2) rfl; (case hg => simp (disch := first | omega | (simp only [dls]; omega)) only [std, reduceIte, reduceCtorEq, Int.reduceToNat, Nat.reduceAdd, Nat.reduceSub, Nat.reduceMul, Int.reduceAdd, Int.reduceSub, Int.reduceMul, Int.reduceNeg, fU, fPd, hxl, hxe]); (case hcl => (simp only [evs, St.ev, constAV, evl]; (repeat (first | exact closeAVs_nil | (apply closeAVs_cons; (first | (refine close_own3 rfl (by decide)) | (refine close_ownO rfl (by decide) ?_; assumption) | rfl)))); done)); (case hu => rfl)))
      refine ⟨(i + 1), ?hI6, ?hM6, Fgt.head (Nat.zero_le 2) [true, true, true, false, false, false, true, true, true] ?hT6 ?hH6⟩
      case hT6 => first | (simp (disch := omega) only [hds, liveT, cleanAV, cleanCell, clean1, cleanBlk, reduceIte, Int.reduceSub, Int.reduceAdd, Int.reduceNeg, hstep]; done) | rfl
      case hH6 => first | (simp (disch := omega) only [hds, liveT, cleanAV, cleanCell, clean1, cleanBlk, reduceIte, Int.reduceSub, Int.reduceAdd, Int.reduceNeg, hstep]; done) | rfl
      · exact hlt
      · show (osl l).length - (i + 1) < (osl l).length - i; omega
    | true =>
    rw [e1] at hin1 hstep
    cases e2 : bitN (sAt l i) z with
    | false =>
      rw [e2] at hin2 hstep
      rw [if_neg (by simp)] at hstep
      repeat (first | (with_reducible first | refine Way.imp ?_ | refine blk_o rfl ?_) | ((with_reducible refine WayR.imp (fun K hK => ?_)); simp (disch := first | omega | (simp only [dls]; omega)) only [std, reduceIte, reduceCtorEq, Int.reduceToNat, Nat.reduceAdd, Nat.reduceSub, Nat.reduceMul, Int.reduceAdd, Int.reduceSub, Int.reduceMul, Int.reduceNeg, fU, fPd, hxl, hxe]; subst hK) | refine zcA (hin1) rfl rfl rfl ?_ | (apply call_any_g (hin2) rfl; (case hg => simp (disch := first | omega | (simp only [dls]; omega)) only [std, reduceIte, reduceCtorEq, Int.reduceToNat, Nat.reduceAdd, Nat.reduceSub, Nat.reduceMul, Int.reduceAdd, Int.reduceSub, Int.reduceMul, Int.reduceNeg, fU, fPd, hxl, hxe]); (case hcl => (simp only [evs, St.ev, constAV, evl]; (repeat (first | exact closeAVs_nil | (apply closeAVs_cons; (first | (refine close_own3 rfl (by decide)) | (refine close_ownO rfl (by decide) ?_; assumption) | rfl)))); done)); (case hu => rfl)))
      refine ⟨(i + 1), ?hI7, ?hM7, Fgt.head (Nat.zero_le 2) [true, true, true, false, false, false, true, true, true] ?hT7 ?hH7⟩
      case hT7 => first | (simp (disch := omega) only [hds, liveT, cleanAV, cleanCell, clean1, cleanBlk, reduceIte, Int.reduceSub, Int.reduceAdd, Int.reduceNeg, hstep]; done) | rfl
      case hH7 => first | (simp (disch := omega) only [hds, liveT, cleanAV, cleanCell, clean1, cleanBlk, reduceIte, Int.reduceSub, Int.reduceAdd, Int.reduceNeg, hstep]; done) | rfl
      · exact hlt
      · show (osl l).length - (i + 1) < (osl l).length - i; omega
    | true =>
      rw [e2] at hin2 hstep
      rw [if_pos (show (true && true) = true from rfl)] at hstep
      repeat (first | (with_reducible first | refine Way.imp ?_ | refine blk_o rfl ?_) | ((with_reducible refine WayR.imp (fun K hK => ?_)); simp (disch := first | omega | (simp only [dls]; omega)) only [std, reduceIte, reduceCtorEq, Int.reduceToNat, Nat.reduceAdd, Nat.reduceSub, Nat.reduceMul, Int.reduceAdd, Int.reduceSub, Int.reduceMul, Int.reduceNeg, fU, fPd, hxl, hxe]; subst hK) | refine zcA (hin1) rfl rfl rfl ?_ | (apply call_any_g (hin2) rfl; (case hg => simp (disch := first | omega | (simp only [dls]; omega)) only [std, reduceIte, reduceCtorEq, Int.reduceToNat, Nat.reduceAdd, Nat.reduceSub, Nat.reduceMul, Int.reduceAdd, Int.reduceSub, Int.reduceMul, Int.reduceNeg, fU, fPd, hxl, hxe]); (case hcl => (simp only [evs, St.ev, constAV, evl]; (repeat (first | exact closeAVs_nil | (apply closeAVs_cons; (first | (refine close_own3 rfl (by decide)) | (refine close_ownO rfl (by decide) ?_; assumption) | rfl)))); done)); (case hu => rfl)) | refine zcA (hadd) rfl rfl rfl ?_)
      refine ⟨(i + 1), ?hI8, ?hM8, Fgt.head (Nat.zero_le 2) [true, true, true, false, false, false, true, true, true] ?hT8 ?hH8⟩
      case hT8 => first | (simp (disch := omega) only [hds, liveT, cleanAV, cleanCell, clean1, cleanBlk, reduceIte, Int.reduceSub, Int.reduceAdd, Int.reduceNeg, hstep]; done) | rfl
      case hH8 => first | (simp (disch := omega) only [hds, liveT, cleanAV, cleanCell, clean1, cleanBlk, reduceIte, Int.reduceSub, Int.reduceAdd, Int.reduceNeg, hstep]; done) | rfl
      · exact hlt
      · show (osl l).length - (i + 1) < (osl l).length - i; omega

end Go.Proofs.YtdhkdnmefeeclaaDoor
set_option linter.unusedSimpArgs false
set_option linter.unusedVariables false
set_option maxRecDepth 100000
set_option maxHeartbeats 4000000
namespace Go.Proofs.YtdhkdnmefeeclaaDoor
open Go Go.Am Go.Proofs Go.RowKit Go.Off

theorem sgn_low (r : RR) : (sgn r.top < 0) ↔ r.val < 0 := by
  have h : r.val < 0 ↔ r.top < 0 := by
    have h1 := mkRat_lt (n := r.top) (m := 0) (d := r.bot) (e := 1) r.bot_ne (by decide)
    rw [show mkRat 0 1 = (0 : Rat) from rfl] at h1
    unfold RR.val
    rw [h1]
    simp
  rw [h, sgn_neg]
theorem setsTo_mem (set : Nat → Int) (z : Int) : ∀ n, (setsTo set n).contains z = true ↔ ∃ k, k < n ∧ set k = z
  | 0 => ⟨fun h => (Bool.false_ne_true h).elim, fun ⟨k, hk, _⟩ => absurd hk (Nat.not_lt_zero _)⟩
  | n + 1 => by
    show (set n :: setsTo set n).contains z = true ↔ _
    rw [List.contains_cons, Bool.or_eq_true, setsTo_mem set z n]
    constructor
    · rintro (h | ⟨k, hk, he⟩)
      · exact ⟨n, by omega, (by simpa using h : z = set n).symm⟩
      · exact ⟨k, by omega, he⟩
    · rintro ⟨k, hk, he⟩
      by_cases h : k = n
      · subst h; exact .inl (by simp [he])
      · exact .inr ⟨k, by omega, he⟩
def setF (l : PL) : Nat → Int := fun i => (ptAt l i).set
def sgF (l : PL) : Nat → Int := fun i => sgn (ptAt l i).v.top
theorem rightP_eq (l : PL) : rightP l = (allK (okS (setF l) (sgF l)) (osl l).length && decide ((osl l).length ≤ 200)) := rfl
theorem setF_eq {l : PL} {N L : Nat} (h : DomP l N L) {i : Nat} (hi : i < (osl l).length) : setF l i = ((sAt l i : Nat) : Int) := by
  have := (h.at hi).1
  unfold setF
  rwa [ptAt_in hi]
theorem sgF_low (l : PL) (i : Nat) : (sgF l i < 0) ↔ vAt l i < 0 := sgn_low _

abbrev c23_k1 : CC := (.seq (.reg [⟨(some 50), none, (.mv (.tmp 0))⟩, ⟨(some 51), none, (.len false (.tmp 50))⟩, ⟨(some 52), none, (.bin .leq (.tmp 51) (.const (.int .i64 (200))))⟩, ⟨(some 2), none, (.mv (.tmp 52))⟩]) .ret)
abbrev c23_k2 : CC := (.reg [⟨(some 9), none, (.mv (.tmp 3))⟩, ⟨(some 10), none, (.bin .add (.tmp 9) (.const (.int .i64 (1))))⟩, ⟨(some 3), none, (.mv (.tmp 10))⟩])
abbrev c23_b1 : CC := (.seq (.seq (.reg [⟨(some 34), none, (.mv (.tmp 4))⟩, ⟨(some 35), none, (.mv (.tmp 3))⟩, ⟨(some 36), none, (.bin .lss (.tmp 34) (.tmp 35))⟩]) (.cond (.tmp 36) .skip (.exit 2))) (.seq (.block 3 (.seq (.reg [⟨(some 39), none, (.mv (.tmp 0))⟩, ⟨(some 40), none, (.mv (.tmp 4))⟩, ⟨(some 41), none, (.iaddr 3 none (.tmp 39) (.tmp 40))⟩, ⟨(some 42), none, (.faddr 0 (.tmp 41))⟩, ⟨(some 43), none, (.load 1 false (.tmp 42))⟩, ⟨(some 44), none, (.mv (.tmp 0))⟩, ⟨(some 45), none, (.mv (.tmp 3))⟩, ⟨(some 46), none, (.iaddr 3 none (.tmp 44) (.tmp 45))⟩, ⟨(some 47), none, (.faddr 0 (.tmp 46))⟩, ⟨(some 48), none, (.load 1 false (.tmp 47))⟩, ⟨(some 49), none, (.bin .eql (.tmp 43) (.tmp 48))⟩]) (.cond (.tmp 49) (.seq (.reg [⟨(some 2), none, (.mv (.const (.bool false)))⟩]) .ret) .skip))) (.reg [⟨(some 37), none, (.mv (.tmp 4))⟩, ⟨(some 38), none, (.bin .add (.tmp 37) (.const (.int .i64 (1))))⟩, ⟨(some 4), none, (.mv (.tmp 38))⟩])))
abbrev c23_b2 : CC := (.seq (.seq (.reg [⟨(some 5), none, (.mv (.tmp 3))⟩, ⟨(some 6), none, (.mv (.tmp 0))⟩, ⟨(some 7), none, (.len false (.tmp 6))⟩, ⟨(some 8), none, (.bin .lss (.tmp 5) (.tmp 7))⟩]) (.cond (.tmp 8) .skip (.exit 0))) (.seq (.block 1 (.seq (.seq (.reg [⟨(some 11), none, (.mv (.tmp 0))⟩, ⟨(some 12), none, (.mv (.tmp 3))⟩, ⟨(some 13), none, (.iaddr 3 none (.tmp 11) (.tmp 12))⟩, ⟨(some 14), none, (.faddr 0 (.tmp 13))⟩, ⟨(some 15), none, (.load 1 false (.tmp 14))⟩, ⟨(some 16), none, (.bin .lss (.tmp 15) (.const (.int .i64 (1))))⟩, ⟨(some 17), none, (.mv (.tmp 16))⟩, ⟨(some 18), (some (17, false)), (.mv (.tmp 0))⟩, ⟨(some 19), (some (17, false)), (.mv (.tmp 3))⟩, ⟨(some 20), (some (17, false)), (.iaddr 3 none (.tmp 18) (.tmp 19))⟩, ⟨(some 21), (some (17, false)), (.faddr 0 (.tmp 20))⟩, ⟨(some 22), (some (17, false)), (.load 1 false (.tmp 21))⟩, ⟨(some 23), (some (17, false)), (.bin .gtr (.tmp 22) (.const (.int .i64 (4095))))⟩, ⟨(some 24), none, (.pick (.tmp 17) (.const (.bool true)) (.tmp 23))⟩, ⟨(some 25), none, (.mv (.tmp 24))⟩, ⟨(some 26), (some (25, false)), (.mv (.tmp 0))⟩, ⟨(some 27), (some (25, false)), (.mv (.tmp 3))⟩, ⟨(some 28), (some (25, false)), (.iaddr 3 none (.tmp 26) (.tmp 27))⟩, ⟨(some 29), (some (25, false)), (.faddr 1 (.tmp 28))⟩, ⟨(some 30), (some (25, false)), (.load 2 true (.tmp 29))⟩, ⟨(some 31), (some (25, false)), (.build [(.string ⟨#[]⟩), (.string ⟨#[]⟩)] [(0, (1, (.const (.string ⟨#[48]⟩)))), (1, (1, (.const (.string ⟨#[49]⟩))))])⟩, ⟨(some 32), (some (25, false)), (.callf (.func 19) [(.tmp 30), (.tmp 31)])⟩, ⟨(some 33), none, (.pick (.tmp 25) (.const (.bool true)) (.tmp 32))⟩]) (.cond (.tmp 33) (.seq (.reg [⟨(some 2), none, (.mv (.const (.bool false)))⟩]) .ret) .skip)) (.seq (.reg [⟨(some 4), none, (.mv (.const (.int .i64 (0))))⟩]) (.block 2 (.loop c23_b1))))) c23_k2))
abbrev c23 : CC := (.seq (.reg [⟨(some 2), none, (.mv (.const (.bool false)))⟩]) (.seq (.seq (.reg [⟨(some 3), none, (.mv (.const (.int .i64 (0))))⟩]) (.block 0 (.loop c23_b2))) c23_k1))
theorem cc23 : ccode Tryd.prog [] (Tryd.f23.body.getD .skip) = some c23 := by kernel_rfl
theorem body23 : Tryd.f23.body = some (Tryd.f23.body.getD .skip) := rfl

theorem rright19_C (l : PL) (x : PD) (N L : Nat) (hx : IsPd x l) (hd : DomP l N L) (hN : N ≤ 1000) (hL : 1 ≤ L) (hL2 : L ≤ 1000) : PureC Tryd.prog 23 [aPd x] (.ret (aB (rightP l))) := by
  have d0 : decZ (0 : Rat).num = [48] := by decide +kernel
  have d1 : dec (0 : Rat).den = [49] := by decide +kernel
  have hlen := hd.len
  obtain ⟨hxl, hxi⟩ := hx
  rw [rightP_eq]
  refine pureC_of (rs := [(RV.tmp 2)]) Tryd.func23 (fun a w => Tryd.call23 a w) body23 cc23 (by kernel_rfl) ?_
  rw [Tryd.ntmps23]
  simp only [frs, Nat.reduceAdd, Nat.reduceSub]
  repeat (first | (with_reducible first | refine Way.imp ?_ | refine blk_o rfl ?_) | ((with_reducible refine WayR.imp (fun K hK => ?_)); simp (disch := first | omega | (simp only [dls]; omega)) only [std, reduceIte, reduceCtorEq, Int.reduceToNat, Nat.reduceAdd, Nat.reduceSub, Nat.reduceMul, Int.reduceAdd, Int.reduceSub, Int.reduceMul, Int.reduceNeg, fU]; subst hK))
  refine awp_loop (fun (zz : Nat) => ⟨(aPd x :: .junk :: .junk :: aI zz :: .junk :: .junk :: .junk :: .junk :: .junk :: .junk :: .junk :: .junk :: .junk :: .junk :: .junk :: .junk :: .junk :: .junk :: .junk :: .junk :: .junk :: .junk :: .junk :: .junk :: .junk :: .junk :: .junk :: .junk :: .junk :: .junk :: .junk :: .junk :: .junk :: .junk :: .junk :: .junk :: .junk :: .junk :: .junk :: .junk :: .junk :: .junk :: .junk :: .junk :: .junk :: .junk :: .junk :: .junk :: .junk :: .junk :: .junk :: .junk :: .junk :: []), []⟩) (fun (zz : Nat) => zz ≤ (osl l).length ∧ allK (okS (setF l) (sgF l)) zz = true) (fun (zz : Nat) => (osl l).length - zz) (0) ?hI1 (Fgt.head (Nat.le_refl _) [true, false, false, true] ?hT1 ?hH1) ?hB1
  case hT1 => first | (simp (disch := omega) only [hds, liveT, cleanAV, cleanCell, clean1, cleanBlk, reduceIte, Int.reduceSub, Int.reduceAdd, Int.reduceNeg]; done) | rfl
  case hH1 => first | (simp (disch := omega) only [hds, liveT, cleanAV, cleanCell, clean1, cleanBlk, reduceIte, Int.reduceSub, Int.reduceAdd, Int.reduceNeg]; done) | rfl
  · exact ⟨Nat.zero_le _, rfl⟩
  rintro i ⟨hi, hall⟩
  by_cases hie : i = (osl l).length
  · rw [← hie, hall, Bool.true_and]
    by_cases h200 : i ≤ 200
    · rw [decide_eq_true h200]
      repeat (first | (with_reducible first | refine Way.imp ?_ | refine blk_o rfl ?_) | ((with_reducible refine WayR.imp (fun K hK => ?_)); simp (disch := first | omega | (simp only [dls]; omega)) only [std, reduceIte, reduceCtorEq, Int.reduceToNat, Nat.reduceAdd, Nat.reduceSub, Nat.reduceMul, Int.reduceAdd, Int.reduceSub, Int.reduceMul, Int.reduceNeg, fU, hxl]; subst hK))
      exact ⟨_, rfl, rfl⟩
    · rw [decide_eq_false h200]
      repeat (first | (with_reducible first | refine Way.imp ?_ | refine blk_o rfl ?_) | ((with_reducible refine WayR.imp (fun K hK => ?_)); simp (disch := first | omega | (simp only [dls]; omega)) only [std, reduceIte, reduceCtorEq, Int.reduceToNat, Nat.reduceAdd, Nat.reduceSub, Nat.reduceMul, Int.reduceAdd, Int.reduceSub, Int.reduceMul, Int.reduceNeg, fU, hxl]; subst hK))
      exact ⟨_, rfl, rfl⟩
  · have hlt : i < (osl l).length := by omega
    have hltx : i < (osl x).length := by omega
    obtain ⟨a1, a2, a3, a4⟩ := hd.at hlt
    have hxe := hxi i hltx
    have hfv : FitsQ (vAt l i) L := by rw [← a4]; exact a3.val hL
    have hle := qless_C (vAt l i) 0 (hfv.mono (by omega)) (fitsQ_zero _ (by decide))
    change PureC _ _ [aQ (vAt l i), .agg [.c (.str (decZ (0 : Rat).num)), .c (.str (dec (0 : Rat).den))]] _ at hle
    rw [d0, d1] at hle
    have hstep := allK_succ (okS (setF l) (sgF l)) i
    rw [hall, Bool.true_and] at hstep
    have hno : okS (setF l) (sgF l) i = false → (allK (okS (setF l) (sgF l)) (osl l).length && decide ((osl l).length ≤ 200)) = false := fun h => by rw [allK_false hlt h]; rfl
    have hset := setF_eq hd hlt
    have hsg := sgF_low l i
    have hok : okS (setF l) (sgF l) i = ((decide (1 ≤ setF l i) && (decide (setF l i < 4096) && !decide (sgF l i < 0))) && !(setsTo (setF l) i).contains (setF l i)) := rfl
    by_cases b1 : 1 ≤ setF l i
    rotate_left
    · rw [hno (by rw [hok, decide_eq_false b1]; rfl)]
      repeat (first | (with_reducible first | refine Way.imp ?_ | refine blk_o rfl ?_) | ((with_reducible refine WayR.imp (fun K hK => ?_)); simp (disch := first | omega | (simp only [dls]; omega)) only [std, reduceIte, reduceCtorEq, Int.reduceToNat, Nat.reduceAdd, Nat.reduceSub, Nat.reduceMul, Int.reduceAdd, Int.reduceSub, Int.reduceMul, Int.reduceNeg, fU, fPd, hxl, hxe]; subst hK) | (apply call_any_g (hle) rfl; (case hg => simp (disch := first | omega | (simp only [dls]; omega)) only [std, reduceIte, reduceCtorEq, Int.reduceToNat, Nat.reduceAdd, Nat.reduceSub, Nat.reduceMul, Int.reduceAdd, Int.reduceSub, Int.reduceMul, Int.reduceNeg, fU, fPd, hxl, hxe]); (case hcl => (simp only [evs, St.ev, constAV, evl]; (repeat (first | exact closeAVs_nil | (apply closeAVs_cons; (first | (refine close_own3 rfl (by decide)) | (refine close_ownO rfl (by decide) ?_; assumption) | rfl)))); done)); (case hu => rfl)))
      exact ⟨_, rfl, rfl⟩
    by_cases b2 : setF l i < 4096
    rotate_left
    · rw [hno (by rw [hok, decide_eq_false b2]; simp)]
      repeat (first | (with_reducible first | refine Way.imp ?_ | refine blk_o rfl ?_) | ((with_reducible refine WayR.imp (fun K hK => ?_)); simp (disch := first | omega | (simp only [dls]; omega)) only [std, reduceIte, reduceCtorEq, Int.reduceToNat, Nat.reduceAdd, Nat.reduceSub, Nat.reduceMul, Int.reduceAdd, Int.reduceSub, Int.reduceMul, Int.reduceNeg, fU, fPd, hxl, hxe]; subst hK) | (apply call_any_g (hle) rfl; (case hg => simp (disch := first | omega | (simp only [dls]; omega)) only [std, reduceIte, reduceCtorEq, Int.reduceToNat, Nat.reduceAdd, Nat.reduceSub, Nat.reduceMul, Int.reduceAdd, Int.reduceSub, Int.reduceMul, Int.reduceNeg, fU, fPd, hxl, hxe]); (case hcl => (simp only [evs, St.ev, constAV, evl]; (repeat (first | exact closeAVs_nil | (apply closeAVs_cons; (first | (refine close_own3 rfl (by decide)) | (refine close_ownO rfl (by decide) ?_; assumption) | rfl)))); done)); (case hu => rfl)))
      exact ⟨_, rfl, rfl⟩
    by_cases b3 : vAt l i < 0
    · rw [decide_eq_true b3] at hle
      rw [hno (by rw [hok, decide_eq_true (hsg.2 b3)]; simp)]
      generalize vAt l i = v at *
      repeat (first | (with_reducible first | refine Way.imp ?_ | refine blk_o rfl ?_) | ((with_reducible refine WayR.imp (fun K hK => ?_)); simp (disch := first | omega | (simp only [dls]; omega)) only [std, reduceIte, reduceCtorEq, Int.reduceToNat, Nat.reduceAdd, Nat.reduceSub, Nat.reduceMul, Int.reduceAdd, Int.reduceSub, Int.reduceMul, Int.reduceNeg, fU, fPd, hxl, hxe]; subst hK) | (apply call_any_g (hle) rfl; (case hg => simp (disch := first | omega | (simp only [dls]; omega)) only [std, reduceIte, reduceCtorEq, Int.reduceToNat, Nat.reduceAdd, Nat.reduceSub, Nat.reduceMul, Int.reduceAdd, Int.reduceSub, Int.reduceMul, Int.reduceNeg, fU, fPd, hxl, hxe]); (case hcl => (simp only [evs, St.ev, constAV, evl]; (repeat (first | exact closeAVs_nil | (apply closeAVs_cons; (first | (refine close_own3 rfl (by decide)) | (refine close_ownO rfl (by decide) ?_; assumption) | rfl)))); done)); (case hu => rfl)))
      exact ⟨_, rfl, rfl⟩
    · rw [decide_eq_false b3] at hle
      rw [decide_eq_true b1, decide_eq_true b2, decide_eq_false (fun h => b3 (hsg.1 h))] at hok
      simp only [Bool.not_false, Bool.and_true, Bool.true_and] at hok
      generalize hgv : vAt l i = v at *
      repeat (first | (with_reducible first | refine Way.imp ?_ | refine blk_o rfl ?_) | ((with_reducible refine WayR.imp (fun K hK => ?_)); simp (disch := first | omega | (simp only [dls]; omega)) only [std, reduceIte, reduceCtorEq, Int.reduceToNat, Nat.reduceAdd, Nat.reduceSub, Nat.reduceMul, Int.reduceAdd, Int.reduceSub, Int.reduceMul, Int.reduceNeg, fU, fPd, hxl, hxe]; subst hK) | (apply call_any_g (hle) rfl; (case hg => simp (disch := first | omega | (simp only [dls]; omega)) only [std, reduceIte, reduceCtorEq, Int.reduceToNat, Nat.reduceAdd, Nat.reduceSub, Nat.reduceMul, Int.reduceAdd, Int.reduceSub, Int.reduceMul, Int.reduceNeg, fU, fPd, hxl, hxe]); (case hcl => (simp only [evs, St.ev, constAV, evl]; (repeat (first | exact closeAVs_nil | (apply closeAVs_cons; (first | (refine close_own3 rfl (by decide)) | (refine close_ownO rfl (by decide) ?_; assumption) | rfl)))); done)); (case hu => rfl)))
      refine awp_loop (fun (zz : Nat) => ⟨(aPd x :: .junk :: .junk :: aI i :: aI zz :: .junk :: .junk :: .junk :: .junk :: .junk :: .junk :: .junk :: .junk :: .junk :: .junk :: .junk :: .junk :: .junk :: .junk :: .junk :: .junk :: .junk :: .junk :: .junk :: .junk :: .junk :: .junk :: .junk :: .junk :: .junk :: .junk :: .junk :: .junk :: .junk :: .junk :: .junk :: .junk :: .junk :: .junk :: .junk :: .junk :: .junk :: .junk :: .junk :: .junk :: .junk :: .junk :: .junk :: .junk :: .junk :: .junk :: .junk :: .junk :: []), []⟩) (fun (zz : Nat) => zz ≤ i ∧ ∀ j, j < zz → setF l j ≠ setF l i) (fun (zz : Nat) => i - zz) (0) ?hI2 (Fgt.head (Nat.le_refl _) [true, false, false, true, true] ?hT2 ?hH2) ?hB2
      case hT2 => first | (simp (disch := omega) only [hds, liveT, cleanAV, cleanCell, clean1, cleanBlk, reduceIte, Int.reduceSub, Int.reduceAdd, Int.reduceNeg]; done) | rfl
      case hH2 => first | (simp (disch := omega) only [hds, liveT, cleanAV, cleanCell, clean1, cleanBlk, reduceIte, Int.reduceSub, Int.reduceAdd, Int.reduceNeg]; done) | rfl
      · exact ⟨Nat.zero_le _, fun j hj => absurd hj (Nat.not_lt_zero _)⟩
      rintro k ⟨hk, hne⟩
      by_cases hki : k = i
      · have hnc : (setsTo (setF l) i).contains (setF l i) = false := by
          cases hcc : (setsTo (setF l) i).contains (setF l i) with
          | false => rfl
          | true =>
            obtain ⟨j, hj, he⟩ := (setsTo_mem _ _ _).1 hcc
            exact absurd he (hne j (by omega))
        rw [hnc] at hok
        repeat (first | (with_reducible first | refine Way.imp ?_ | refine blk_o rfl ?_) | ((with_reducible refine WayR.imp (fun K hK => ?_)); simp (disch := first | omega | (simp only [dls]; omega)) only [std, reduceIte, reduceCtorEq, Int.reduceToNat, Nat.reduceAdd, Nat.reduceSub, Nat.reduceMul, Int.reduceAdd, Int.reduceSub, Int.reduceMul, Int.reduceNeg, fU]; subst hK))
        refine ⟨(i + 1), ?hI3, ?hM3, Fgt.head (Nat.le_refl _) [true, false, false, true] ?hT3 ?hH3⟩
        case hT3 => first | (simp (disch := omega) only [hds, liveT, cleanAV, cleanCell, clean1, cleanBlk, reduceIte, Int.reduceSub, Int.reduceAdd, Int.reduceNeg]; done) | rfl
        case hH3 => first | (simp (disch := omega) only [hds, liveT, cleanAV, cleanCell, clean1, cleanBlk, reduceIte, Int.reduceSub, Int.reduceAdd, Int.reduceNeg]; done) | rfl
        · exact ⟨hlt, by rw [hstep, hok]; rfl⟩
        · show (osl l).length - (i + 1) < (osl l).length - i; omega
      · have hkl : k < (osl l).length := by omega
        have hkx : k < (osl x).length := by omega
        have hxk := hxi k hkx
        have hsk := setF_eq hd hkl
        by_cases he : sAt l k = sAt l i
        · have hcc : (setsTo (setF l) i).contains (setF l i) = true := (setsTo_mem _ _ _).2 ⟨k, by omega, by rw [hsk, hset, he]⟩
          rw [hno (by rw [hok, hcc]; rfl)]
          repeat (first | (with_reducible first | refine Way.imp ?_ | refine blk_o rfl ?_) | ((with_reducible refine WayR.imp (fun K hK => ?_)); simp (disch := first | omega | (simp only [dls]; omega)) only [std, reduceIte, reduceCtorEq, Int.reduceToNat, Nat.reduceAdd, Nat.reduceSub, Nat.reduceMul, Int.reduceAdd, Int.reduceSub, Int.reduceMul, Int.reduceNeg, fU, fPd, hxl, hxe, hxk]; subst hK))
          exact ⟨_, rfl, rfl⟩
        · repeat (first | (with_reducible first | refine Way.imp ?_ | refine blk_o rfl ?_) | ((with_reducible refine WayR.imp (fun K hK => ?_)); simp (disch := first | omega | (simp only [dls]; omega)) only [std, reduceIte, reduceCtorEq, Int.reduceToNat, Nat.reduceAdd, Nat.reduceSub, Nat.reduceMul, Int.reduceAdd, Int.reduceSub, Int.reduceMul, Int.reduceNeg, fU, fPd, hxl, hxe, hxk]; subst hK))
          refine ⟨(k + 1), ?hI4, ?hM4, Fgt.head (Nat.le_refl _) [true, false, false, true, true] ?hT4 ?hH4⟩
          case hT4 => first | (simp (disch := omega) only [hds, liveT, cleanAV, cleanCell, clean1, cleanBlk, reduceIte, Int.reduceSub, Int.reduceAdd, Int.reduceNeg]; done) | rfl
          case hH4 => first | (simp (disch := omega) only [hds, liveT, cleanAV, cleanCell, clean1, cleanBlk, reduceIte, Int.reduceSub, Int.reduceAdd, Int.reduceNeg]; done) | rfl
          · refine ⟨by omega, fun j hj => ?_⟩
            rcases Nat.lt_or_ge j k with h | h
            · exact hne j h
            · rw [show j = k by omega, hsk, hset]; omega
          · show i - (k + 1) < i - k; omega

end Go.Proofs.YtdhkdnmefeeclaaDoor
