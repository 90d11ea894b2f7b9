/- The law PairsWhole: the walk. -/
import Derived.Test.YtdhkdnmefeeclaaDoorZD
set_option linter.unusedSimpArgs false
set_option linter.unusedVariables false
set_option linter.unnecessarySimpa false
set_option linter.unusedSimpArgs false
set_option linter.unusedVariables false
set_option maxRecDepth 100000
set_option maxHeartbeats 4000000
namespace Go.Proofs.YtdhkdnmefeeclaaDoor
open Go Go.Am Go.Proofs Go.RowKit Go.Off

theorem num_zero (v : Rat) : (decZ v.num == [48]) = decide (v = 0) := by
  have d0 : decZ (0 : Int) = [48] := by decide +kernel
  by_cases h : v = 0
  · subst h
    rw [decide_eq_true rfl]
    exact beq_iff_eq.2 d0
  · rw [decide_eq_false h]
    refine beq_eq_false_iff_ne.2 (fun e => h ?_)
    have : v.num = 0 := decZ_inj (e.trans d0.symm)
    exact Rat.num_eq_zero.1 this
theorem num_one (v : Rat) : ((decZ v.num == [49]) && (dec v.den == [49])) = decide (v = 1) := by
  have d0 : decZ (1 : Int) = [49] := by decide +kernel
  have d1 : dec 1 = [49] := dec_one
  by_cases h : v = 1
  · subst h
    rw [decide_eq_true rfl]
    decide +kernel
  · rw [decide_eq_false h]
    cases e1 : (decZ v.num == [49]) with
    | false => rfl
    | true =>
      cases e2 : (dec v.den == [49]) with
      | false => rfl
      | true =>
        have a1 : v.num = 1 := decZ_inj ((beq_iff_eq.1 e1).trans d0.symm)
        have a2 : v.den = 1 := dec_inj ((beq_iff_eq.1 e2).trans d1.symm)
        exact absurd (Rat.ext a1 a2) h

abbrev c4_k1 : CC := (.seq (.reg [⟨(some 71), none, (.callf (.func 15) [])⟩, ⟨(some 2), none, (.mv (.tmp 71))⟩]) .ret)
abbrev c4_b1 : CC := (.seq (.reg [⟨(some 59), none, (.bin .lss (.tmp 58) (.tmp 57))⟩]) (.seq (.cond (.tmp 59) .skip (.exit 2)) (.seq (.block 3 (.seq (.reg [⟨(some 60), none, (.mv (.tmp 58))⟩, ⟨(some 8), none, (.mv (.tmp 60))⟩]) (.seq (.reg [⟨(some 61), none, (.mv (.tmp 7))⟩, ⟨(some 62), none, (.mv (.tmp 8))⟩, ⟨(some 63), none, (.iaddr 1 none (.tmp 61) (.tmp 62))⟩, ⟨(some 64), none, (.load 1 false (.tmp 63))⟩, ⟨(some 65), none, (.mv (.tmp 4))⟩, ⟨(some 66), none, (.mv (.tmp 8))⟩, ⟨(some 67), none, (.iaddr 1 none (.tmp 65) (.tmp 66))⟩, ⟨(some 68), none, (.load 1 false (.tmp 67))⟩, ⟨(some 69), none, (.bin .neq (.tmp 64) (.tmp 68))⟩]) (.cond (.tmp 69) (.seq (.reg [⟨(some 2), none, (.mv (.const (.bool false)))⟩]) .ret) .skip)))) (.reg [⟨(some 70), none, (.bin .add (.tmp 58) (.const (.int .i64 (1))))⟩, ⟨(some 58), none, (.mv (.tmp 70))⟩]))))
abbrev c4_k2 : CC := (.seq (.reg [⟨(some 43), none, (.mv (.tmp 0))⟩, ⟨(some 44), none, (.callf (.func 20) [(.tmp 43)])⟩, ⟨(some 7), none, (.mv (.tmp 44))⟩]) (.seq (.seq (.reg [⟨(some 45), none, (.mv (.tmp 7))⟩, ⟨(some 46), none, (.len false (.tmp 45))⟩, ⟨(some 47), none, (.mv (.tmp 4))⟩, ⟨(some 48), none, (.len false (.tmp 47))⟩, ⟨(some 49), none, (.bin .neq (.tmp 46) (.tmp 48))⟩, ⟨(some 50), none, (.mv (.tmp 49))⟩, ⟨(some 51), (some (50, false)), (.mv (.tmp 0))⟩, ⟨(some 52), (some (50, false)), (.callf (.func 21) [(.tmp 51)])⟩, ⟨(some 53), (some (50, false)), (.mv (.tmp 3))⟩, ⟨(some 54), (some (50, false)), (.beq true (.tmp 52) (.tmp 53))⟩, ⟨(some 55), none, (.pick (.tmp 50) (.const (.bool true)) (.tmp 54))⟩]) (.cond (.tmp 55) (.seq (.reg [⟨(some 2), none, (.mv (.const (.bool false)))⟩]) .ret) .skip)) (.seq (.seq (.reg [⟨(some 56), none, (.mv (.tmp 7))⟩, ⟨(some 57), none, (.len false (.tmp 56))⟩, ⟨(some 58), none, (.mv (.const (.int .i64 (0))))⟩]) (.block 2 (.loop c4_b1))) c4_k1)))
abbrev c4_b2 : CC := (.seq (.reg [⟨(some 17), none, (.bin .lss (.tmp 16) (.tmp 15))⟩]) (.seq (.cond (.tmp 17) .skip (.exit 0)) (.seq (.block 1 (.seq (.reg [⟨(some 18), none, (.iaddr 3 none (.tmp 14) (.tmp 16))⟩, ⟨(some 19), none, (.load 3 true (.tmp 18))⟩, ⟨(some 6), none, (.new 36 [(.int .i64 (0)), (.string ⟨#[]⟩), (.string ⟨#[]⟩)])⟩, ⟨none, none, (.store 3 (.tmp 6) (.tmp 19))⟩]) (.seq (.seq (.reg [⟨(some 20), none, (.faddr 1 (.tmp 6))⟩, ⟨(some 21), none, (.faddr 0 (.tmp 20))⟩, ⟨(some 22), none, (.load 1 false (.tmp 21))⟩, ⟨(some 23), none, (.bin .eql (.tmp 22) (.const (.string ⟨#[48]⟩)))⟩]) (.cond (.tmp 23) (.exit 1) .skip)) (.seq (.reg [⟨(some 24), none, (.mv (.tmp 4))⟩, ⟨(some 25), none, (.faddr 0 (.tmp 6))⟩, ⟨(some 26), none, (.load 1 false (.tmp 25))⟩, ⟨(some 27), none, (.mkrow 3 1 [(.tmp 26)])⟩, ⟨(some 28), none, (.append 3 1 8 (.tmp 24) (.tmp 27))⟩, ⟨(some 4), none, (.mv (.tmp 28))⟩]) (.reg [⟨(some 29), none, (.mv (.tmp 3))⟩, ⟨(some 30), none, (.mv (.tmp 29))⟩, ⟨(some 31), (some (30, true)), (.faddr 1 (.tmp 6))⟩, ⟨(some 32), (some (30, true)), (.faddr 0 (.tmp 31))⟩, ⟨(some 33), (some (30, true)), (.load 1 false (.tmp 32))⟩, ⟨(some 34), (some (30, true)), (.bin .eql (.tmp 33) (.const (.string ⟨#[49]⟩)))⟩, ⟨(some 35), none, (.pick (.tmp 30) (.tmp 34) (.const (.bool false)))⟩, ⟨(some 36), none, (.mv (.tmp 35))⟩, ⟨(some 37), (some (36, true)), (.faddr 1 (.tmp 6))⟩, ⟨(some 38), (some (36, true)), (.faddr 1 (.tmp 37))⟩, ⟨(some 39), (some (36, true)), (.load 1 false (.tmp 38))⟩, ⟨(some 40), (some (36, true)), (.bin .eql (.tmp 39) (.const (.string ⟨#[49]⟩)))⟩, ⟨(some 41), none, (.pick (.tmp 36) (.tmp 40) (.const (.bool false)))⟩, ⟨(some 3), none, (.mv (.tmp 41))⟩]))))) (.reg [⟨(some 42), none, (.bin .add (.tmp 16) (.const (.int .i64 (1))))⟩, ⟨(some 16), none, (.mv (.tmp 42))⟩]))))
abbrev c4 : CC := (.seq (.reg [⟨(some 2), none, (.mv (.const (.bool false)))⟩]) (.seq (.seq (.reg [⟨(some 9), none, (.mv (.tmp 0))⟩, ⟨(some 10), none, (.callf (.func 14) [(.tmp 9)])⟩, ⟨(some 11), none, (.un .not (.tmp 10))⟩]) (.cond (.tmp 11) (.seq (.reg [⟨(some 12), none, (.callf (.func 15) [])⟩, ⟨(some 2), none, (.mv (.tmp 12))⟩]) .ret) .skip)) (.seq (.reg [⟨(some 3), none, (.mv (.const (.bool true)))⟩]) (.seq (.reg [⟨(some 4), none, (.mv (.const (.slice none 0 0)))⟩]) (.seq (.seq (.reg [⟨(some 13), none, (.mv (.tmp 0))⟩, ⟨(some 14), none, (.callf (.func 17) [(.tmp 13)])⟩, ⟨(some 15), none, (.len false (.tmp 14))⟩, ⟨(some 16), none, (.mv (.const (.int .i64 (0))))⟩]) (.block 0 (.loop c4_b2))) c4_k2)))))
theorem cc4 : ccode Tryd.prog [] (Tryd.f4.body.getD .skip) = some c4 := by kernel_rfl
theorem body4 : Tryd.f4.body = some (Tryd.f4.body.getD .skip) := rfl

theorem pairsWhole_C (l : PL) (h64 : ∀ p ∈ osl l, p.set ≤ 9223372036854775807) : PureC Tryd.prog 4 [aPl l] (.ret (aB true)) := by
  have haw := awake19_C
  have hfw := few19_C l
  cases c2 : fewPt l with
  | false =>
    rw [c2] at hfw
    refine pureC_of (rs := [(RV.tmp 2)]) Tryd.func4 (fun a w => Tryd.call4 a w) body4 cc4 (by kernel_rfl) ?_
    rw [Tryd.ntmps4]
    simp only [frs, Nat.reduceAdd, Nat.reduceSub]
    repeat (first | (with_reducible first | refine Way.imp ?_ | refine blk_o rfl ?_) | ((with_reducible refine WayR.imp (fun K hK => ?_)); simp (disch := first | omega | (simp only [dls]; omega)) only [std, reduceIte, reduceCtorEq, Int.reduceToNat, Nat.reduceAdd, Nat.reduceSub, Nat.reduceMul, Int.reduceAdd, Int.reduceSub, Int.reduceMul, Int.reduceNeg, fU]; subst hK) | refine zcA (hfw) rfl rfl rfl ?_ | refine zcA (haw) rfl rfl rfl ?_)
    exact ⟨_, rfl, rfl⟩
  | true =>
  rw [c2] at hfw
  have hd := fewPt_dom c2 h64
  have hlen := hd.len
  have hof := of19_C l 12 3 hd (by decide) (by decide) (by decide)
  obtain ⟨hxl, hxi⟩ := isPd_of l
  have hs := psets_C l 12 3 hd (by decide) (by decide) (by decide)
  have hw := pwhole_C l 12 3 hd (by decide) (by decide) (by decide)
  generalize rowO (ofP l (osl l).length) = x at *
  have hW : osl (rowO (setsL l (osl l).length)) = setsL l (osl l).length := osl_rowO _
  generalize rowO (setsL l (osl l).length) = W at *
  have hz : setsL l 0 = [] := rfl
  refine pureC_of (rs := [(RV.tmp 2)]) Tryd.func4 (fun a w => Tryd.call4 a w) body4 cc4 (by kernel_rfl) ?_
  rw [Tryd.ntmps4]
  simp only [frs, Nat.reduceAdd, Nat.reduceSub]
  repeat (first | (with_reducible first | refine Way.imp ?_ | refine blk_o rfl ?_) | ((with_reducible refine WayR.imp (fun K hK => ?_)); simp (disch := first | omega | (simp only [dls]; omega)) only [std, reduceIte, reduceCtorEq, Int.reduceToNat, Nat.reduceAdd, Nat.reduceSub, Nat.reduceMul, Int.reduceAdd, Int.reduceSub, Int.reduceMul, Int.reduceNeg, fU, hxl]; subst hK) | refine zcA (hfw) rfl rfl rfl ?_ | refine zcA (haw) rfl rfl rfl ?_ | refine zcA (hof) rfl rfl rfl ?_)
  refine AWp.fgt ?_ (Fgt.openNil (i := 4) rfl 3 1)
  simp only [List.set_cons_succ, List.set_cons_zero, List.length_nil, List.length_cons, List.nil_append, List.cons_append, Nat.reduceAdd]
  refine awp_loop (fun (zz : Nat × (List Int) × Nat × Bool × Bool) => ⟨(aPl l :: .junk :: .junk :: aB zz.2.2.2.2 :: .one (.own 0 zz.2.2.1) :: .junk :: .junk :: .junk :: .junk :: .junk :: .junk :: .junk :: .junk :: .junk :: aPd x :: aI (osl l).length :: aI zz.1 :: .junk :: .junk :: .junk :: .junk :: .junk :: .junk :: .junk :: .junk :: .junk :: .junk :: .junk :: .junk :: .junk :: .junk :: .junk :: .junk :: .junk :: .junk :: .junk :: .junk :: .junk :: .junk :: .junk :: .junk :: .junk :: .junk :: .junk :: .junk :: .junk :: .junk :: .junk :: .junk :: .junk :: .junk :: .junk :: .junk :: .junk :: .junk :: .junk :: .junk :: .junk :: .junk :: .junk :: .junk :: .junk :: .junk :: .junk :: .junk :: .junk :: .junk :: .junk :: .junk :: .junk :: .junk :: .junk :: []), [⟨zz.2.2.1, 3, 1, encB fI zz.2.1, true, zz.2.2.2.1⟩]⟩) (fun (zz : Nat × (List Int) × Nat × Bool × Bool) => zz.1 ≤ (osl l).length ∧ zz.2.1 = setsL l zz.1 ∧ zz.2.2.2.1 = !zz.2.1.isEmpty ∧ zz.2.2.2.2 = allK (unitP l) zz.1) (fun (zz : Nat × (List Int) × Nat × Bool × Bool) => (osl l).length - zz.1) (0, [], 0, false, true) ?hI1 (Fgt.head (Nat.zero_le 1) [true, false, false, true, true, false, false, false, false, false, false, false, false, false, true, true, true] ?hT1 ?hH1) ?hB1
  case hT1 => first | (simp (disch := omega) only [hds, liveT, cleanAV, cleanCell, clean1, cleanBlk, reduceIte, Int.reduceSub, Int.reduceAdd, Int.reduceNeg, encB_nil]; done) | rfl
  case hH1 => first | (simp (disch := omega) only [hds, liveT, cleanAV, cleanCell, clean1, cleanBlk, reduceIte, Int.reduceSub, Int.reduceAdd, Int.reduceNeg, encB_nil]; done) | rfl
  · dsimp only; exact ⟨Nat.zero_le _, rfl, rfl, rfl⟩
  rintro ⟨i, out, v, nn, u⟩ ⟨hi, ho, hnn, hu⟩
  dsimp only at hi ho hnn hu
  by_cases hie : i = (osl l).length
  · rw [hie] at ho hu
    rw [← hW] at ho
    have hol : (osl W).length ≤ 12 := by rw [hW]; have := setsL_len l (osl l).length; omega
    have hu2 : wholeP l = u := hu.symm
    rw [hu2] at hw
    subst ho
    clear hnn hu hu2
    repeat (first | (with_reducible first | refine Way.imp ?_ | refine blk_o rfl ?_) | ((with_reducible refine WayR.imp (fun K hK => ?_)); simp (disch := first | omega | (simp only [dls]; omega)) only [std, reduceIte, reduceCtorEq, Int.reduceToNat, Nat.reduceAdd, Nat.reduceSub, Nat.reduceMul, Int.reduceAdd, Int.reduceSub, Int.reduceMul, Int.reduceNeg, fU]; subst hK) | refine zcA (hs) rfl rfl rfl ?_ | (apply call_any_g (hw) rfl; (case hg => simp (disch := first | omega | (simp only [dls]; omega)) only [std, reduceIte, reduceCtorEq, Int.reduceToNat, Nat.reduceAdd, Nat.reduceSub, Nat.reduceMul, Int.reduceAdd, Int.reduceSub, Int.reduceMul, Int.reduceNeg, fU]); (case hcl => (simp only [evs, St.ev, constAV, evl]; (repeat (first | exact closeAVs_nil | (apply closeAVs_cons; (first | (refine close_own3 rfl (by decide)) | (refine close_ownO rfl (by decide) ?_; assumption) | rfl)))); done)); (case hu => rfl)))
    refine awp_loop (fun (zz : Nat) => ⟨(.junk :: .junk :: .junk :: .junk :: .one (.own 0 v) :: .junk :: .junk :: aWs W :: .junk :: .junk :: .junk :: .junk :: .junk :: .junk :: .junk :: .junk :: .junk :: .junk :: .junk :: .junk :: .junk :: .junk :: .junk :: .junk :: .junk :: .junk :: .junk :: .junk :: .junk :: .junk :: .junk :: .junk :: .junk :: .junk :: .junk :: .junk :: .junk :: .junk :: .junk :: .junk :: .junk :: .junk :: .junk :: .junk :: .junk :: .junk :: .junk :: .junk :: .junk :: .junk :: .junk :: .junk :: .junk :: .junk :: .junk :: .junk :: .junk :: aI (osl W).length :: aI zz :: .junk :: .junk :: .junk :: .junk :: .junk :: .junk :: .junk :: .junk :: .junk :: .junk :: .junk :: .junk :: .junk :: []), [⟨v, 3, 1, encB fI (osl W), true, nn⟩]⟩) (fun (zz : Nat) => zz ≤ (osl W).length) (fun (zz : Nat) => (osl W).length - zz) (0) ?hI2 (Fgt.head (Nat.zero_le 1) (false :: false :: false :: false :: true :: false :: false :: true :: false :: false :: false :: false :: false :: false :: false :: false :: false :: false :: false :: false :: false :: false :: false :: false :: false :: false :: false :: false :: false :: false :: false :: false :: false :: false :: false :: false :: false :: false :: false :: false :: false :: false :: false :: false :: false :: false :: false :: false :: false :: false :: false :: false :: false :: false :: false :: false :: false :: true :: true :: []) ?hT2 ?hH2) ?hB2
    case hT2 => first | (simp (disch := omega) only [hds, liveT, cleanAV, cleanCell, clean1, cleanBlk, reduceIte, Int.reduceSub, Int.reduceAdd, Int.reduceNeg]; done) | rfl
    case hH2 => first | (simp (disch := omega) only [hds, liveT, cleanAV, cleanCell, clean1, cleanBlk, reduceIte, Int.reduceSub, Int.reduceAdd, Int.reduceNeg]; done) | rfl
    · exact Nat.zero_le _
    rintro k hk
    by_cases hke : k = (osl W).length
    · repeat (first | (with_reducible first | refine Way.imp ?_ | refine blk_o rfl ?_) | ((with_reducible refine WayR.imp (fun K hK => ?_)); simp (disch := first | omega | (simp only [dls]; omega)) only [std, reduceIte, reduceCtorEq, Int.reduceToNat, Nat.reduceAdd, Nat.reduceSub, Nat.reduceMul, Int.reduceAdd, Int.reduceSub, Int.reduceMul, Int.reduceNeg, fU]; subst hK) | refine zcA (haw) rfl rfl rfl ?_)
      exact ⟨_, rfl, rfl⟩
    · have hklt : k < (osl W).length := by omega
      repeat (first | (with_reducible first | refine Way.imp ?_ | refine blk_o rfl ?_) | ((with_reducible refine WayR.imp (fun K hK => ?_)); simp (disch := first | omega | (simp only [dls]; omega)) only [std, reduceIte, reduceCtorEq, Int.reduceToNat, Nat.reduceAdd, Nat.reduceSub, Nat.reduceMul, Int.reduceAdd, Int.reduceSub, Int.reduceMul, Int.reduceNeg, fU, fI]; subst hK))
      refine ⟨(k + 1), ?hI3, ?hM3, Fgt.head (Nat.zero_le 1) (false :: false :: false :: false :: true :: false :: false :: true :: false :: false :: false :: false :: false :: false :: false :: false :: false :: false :: false :: false :: false :: false :: false :: false :: false :: false :: false :: false :: false :: false :: false :: false :: false :: false :: false :: false :: false :: false :: false :: false :: false :: false :: false :: false :: false :: false :: false :: false :: false :: false :: false :: false :: false :: false :: false :: false :: false :: true :: true :: []) ?hT3 ?hH3⟩
      case hT3 => first | (simp (disch := omega) only [hds, liveT, cleanAV, cleanCell, clean1, cleanBlk, reduceIte, Int.reduceSub, Int.reduceAdd, Int.reduceNeg]; done) | rfl
      case hH3 => first | (simp (disch := omega) only [hds, liveT, cleanAV, cleanCell, clean1, cleanBlk, reduceIte, Int.reduceSub, Int.reduceAdd, Int.reduceNeg]; done) | rfl
      · exact hklt
      · show (osl W).length - (k + 1) < (osl W).length - k; omega
  · have hlt : i < (osl l).length := by omega
    have hltx : i < (osl x).length := by omega
    have hxe := hxi i hltx
    have hsu := setsL_succ l i
    have hun := allK_succ (unitP l) i
    have hol : out.length ≤ 12 := by rw [ho]; have := setsL_len l i; omega
    have hup : unitP l i = (decide (vAt l i = 0) || decide (vAt l i = 1)) := rfl
    have n0 := num_zero (vAt l i)
    have n1 := num_one (vAt l i)
    have eA : encB fI out ++ [[Cell.c (.val (.int .i64 ((sAt l i : Nat) : Int)))]] = encB fI (out ++ [((sAt l i : Nat) : Int)]) := by rw [← encB_append]; rfl
    generalize vAt l i = q at *
    by_cases hz0 : q = 0
    · rw [decide_eq_true hz0] at n0 hup
      rw [if_pos hz0] at hsu
      repeat (first | (with_reducible first | refine Way.imp ?_ | refine blk_o rfl ?_) | ((with_reducible refine WayR.imp (fun K hK => ?_)); simp (disch := first | omega | (simp only [dls]; omega)) only [std, reduceIte, reduceCtorEq, Int.reduceToNat, Nat.reduceAdd, Nat.reduceSub, Nat.reduceMul, Int.reduceAdd, Int.reduceSub, Int.reduceMul, Int.reduceNeg, fU, fPd, hxl, hxe, n0]; subst hK))
      refine ⟨(i + 1, out, v, nn, u), ?hI4, ?hM4, Fgt.head (Nat.zero_le 1) [true, false, false, true, true, false, false, false, false, false, false, false, false, false, true, true, true] ?hT4 ?hH4⟩
      case hT4 => first | (simp (disch := omega) only [hds, liveT, cleanAV, cleanCell, clean1, cleanBlk, reduceIte, Int.reduceSub, Int.reduceAdd, Int.reduceNeg]; done) | rfl
      case hH4 => first | (simp (disch := omega) only [hds, liveT, cleanAV, cleanCell, clean1, cleanBlk, reduceIte, Int.reduceSub, Int.reduceAdd, Int.reduceNeg]; done) | rfl
      · dsimp only; exact ⟨hlt, by rw [hsu]; exact ho, hnn, by rw [hun, hup, hu]; simp⟩
      · dsimp only; omega
    · rw [decide_eq_false hz0] at n0 hup
      rw [if_neg hz0] at hsu
      rw [Bool.false_or, ← n1] at hup
      generalize hy1 : (decZ q.num == [49]) = y1 at *
      generalize hy2 : (dec q.den == [49]) = y2 at *
      have hun2 : (u && (y1 && y2)) = allK (unitP l) (i + 1) := by rw [hun, hup, hu]
      have hfin : ∀ r : Bool, (u && (y1 && y2)) = r → r = allK (unitP l) (i + 1) := fun r h => h.symm.trans hun2
      clear hu hun hun2 hup n1
      by_cases cc1 : u = false ∧ y1 = false ∧ y2 = false
      · obtain ⟨rfl, rfl, rfl⟩ := cc1
        have hr := hfin false rfl
        repeat (first | (with_reducible first | refine Way.imp ?_ | refine blk_o rfl ?_) | ((with_reducible refine WayR.imp (fun K hK => ?_)); simp (disch := first | omega | (simp only [dls]; omega)) only [std, reduceIte, reduceCtorEq, Int.reduceToNat, Nat.reduceAdd, Nat.reduceSub, Nat.reduceMul, Int.reduceAdd, Int.reduceSub, Int.reduceMul, Int.reduceNeg, fU, fPd, hxl, hxe, n0, hy1, hy2]; subst hK))
        refine ⟨(i + 1, out ++ [((sAt l i : Nat) : Int)], v + 1, true, false), ?hI5, ?hM5, Fgt.head (Nat.zero_le 1) [true, false, false, true, true, false, false, false, false, false, false, false, false, false, true, true, true] ?hT5 ?hH5⟩
        case hT5 => first | (simp (disch := omega) only [hds, liveT, cleanAV, cleanCell, clean1, cleanBlk, reduceIte, Int.reduceSub, Int.reduceAdd, Int.reduceNeg, eA, List.isEmpty_cons, Bool.or_true, Bool.not_false]; done) | rfl
        case hH5 => first | (simp (disch := omega) only [hds, liveT, cleanAV, cleanCell, clean1, cleanBlk, reduceIte, Int.reduceSub, Int.reduceAdd, Int.reduceNeg, eA, List.isEmpty_cons, Bool.or_true, Bool.not_false]; done) | rfl
        · dsimp only; exact ⟨hlt, by rw [hsu, ho], by cases out <;> rfl, hr⟩
        · dsimp only; omega
      by_cases cc2 : u = false ∧ y1 = false ∧ y2 = true
      · obtain ⟨rfl, rfl, rfl⟩ := cc2
        have hr := hfin false rfl
        repeat (first | (with_reducible first | refine Way.imp ?_ | refine blk_o rfl ?_) | ((with_reducible refine WayR.imp (fun K hK => ?_)); simp (disch := first | omega | (simp only [dls]; omega)) only [std, reduceIte, reduceCtorEq, Int.reduceToNat, Nat.reduceAdd, Nat.reduceSub, Nat.reduceMul, Int.reduceAdd, Int.reduceSub, Int.reduceMul, Int.reduceNeg, fU, fPd, hxl, hxe, n0, hy1, hy2]; subst hK))
        refine ⟨(i + 1, out ++ [((sAt l i : Nat) : Int)], v + 1, true, false), ?hI6, ?hM6, Fgt.head (Nat.zero_le 1) [true, false, false, true, true, false, false, false, false, false, false, false, false, false, true, true, true] ?hT6 ?hH6⟩
        case hT6 => first | (simp (disch := omega) only [hds, liveT, cleanAV, cleanCell, clean1, cleanBlk, reduceIte, Int.reduceSub, Int.reduceAdd, Int.reduceNeg, eA, List.isEmpty_cons, Bool.or_true, Bool.not_false]; done) | rfl
        case hH6 => first | (simp (disch := omega) only [hds, liveT, cleanAV, cleanCell, clean1, cleanBlk, reduceIte, Int.reduceSub, Int.reduceAdd, Int.reduceNeg, eA, List.isEmpty_cons, Bool.or_true, Bool.not_false]; done) | rfl
        · dsimp only; exact ⟨hlt, by rw [hsu, ho], by cases out <;> rfl, hr⟩
        · dsimp only; omega
      by_cases cc3 : u = false ∧ y1 = true ∧ y2 = false
      · obtain ⟨rfl, rfl, rfl⟩ := cc3
        have hr := hfin false rfl
        repeat (first | (with_reducible first | refine Way.imp ?_ | refine blk_o rfl ?_) | ((with_reducible refine WayR.imp (fun K hK => ?_)); simp (disch := first | omega | (simp only [dls]; omega)) only [std, reduceIte, reduceCtorEq, Int.reduceToNat, Nat.reduceAdd, Nat.reduceSub, Nat.reduceMul, Int.reduceAdd, Int.reduceSub, Int.reduceMul, Int.reduceNeg, fU, fPd, hxl, hxe, n0, hy1, hy2]; subst hK))
        refine ⟨(i + 1, out ++ [((sAt l i : Nat) : Int)], v + 1, true, false), ?hI7, ?hM7, Fgt.head (Nat.zero_le 1) [true, false, false, true, true, false, false, false, false, false, false, false, false, false, true, true, true] ?hT7 ?hH7⟩
        case hT7 => first | (simp (disch := omega) only [hds, liveT, cleanAV, cleanCell, clean1, cleanBlk, reduceIte, Int.reduceSub, Int.reduceAdd, Int.reduceNeg, eA, List.isEmpty_cons, Bool.or_true, Bool.not_false]; done) | rfl
        case hH7 => first | (simp (disch := omega) only [hds, liveT, cleanAV, cleanCell, clean1, cleanBlk, reduceIte, Int.reduceSub, Int.reduceAdd, Int.reduceNeg, eA, List.isEmpty_cons, Bool.or_true, Bool.not_false]; done) | rfl
        · dsimp only; exact ⟨hlt, by rw [hsu, ho], by cases out <;> rfl, hr⟩
        · dsimp only; omega
      by_cases cc4 : u = false ∧ y1 = true ∧ y2 = true
      · obtain ⟨rfl, rfl, rfl⟩ := cc4
        have hr := hfin false rfl
        repeat (first | (with_reducible first | refine Way.imp ?_ | refine blk_o rfl ?_) | ((with_reducible refine WayR.imp (fun K hK => ?_)); simp (disch := first | omega | (simp only [dls]; omega)) only [std, reduceIte, reduceCtorEq, Int.reduceToNat, Nat.reduceAdd, Nat.reduceSub, Nat.reduceMul, Int.reduceAdd, Int.reduceSub, Int.reduceMul, Int.reduceNeg, fU, fPd, hxl, hxe, n0, hy1, hy2]; subst hK))
        refine ⟨(i + 1, out ++ [((sAt l i : Nat) : Int)], v + 1, true, false), ?hI8, ?hM8, Fgt.head (Nat.zero_le 1) [true, false, false, true, true, false, false, false, false, false, false, false, false, false, true, true, true] ?hT8 ?hH8⟩
        case hT8 => first | (simp (disch := omega) only [hds, liveT, cleanAV, cleanCell, clean1, cleanBlk, reduceIte, Int.reduceSub, Int.reduceAdd, Int.reduceNeg, eA, List.isEmpty_cons, Bool.or_true, Bool.not_false]; done) | rfl
        case hH8 => first | (simp (disch := omega) only [hds, liveT, cleanAV, cleanCell, clean1, cleanBlk, reduceIte, Int.reduceSub, Int.reduceAdd, Int.reduceNeg, eA, List.isEmpty_cons, Bool.or_true, Bool.not_false]; done) | rfl
        · dsimp only; exact ⟨hlt, by rw [hsu, ho], by cases out <;> rfl, hr⟩
        · dsimp only; omega
      by_cases cc5 : u = true ∧ y1 = false ∧ y2 = false
      · obtain ⟨rfl, rfl, rfl⟩ := cc5
        have hr := hfin false rfl
        repeat (first | (with_reducible first | refine Way.imp ?_ | refine blk_o rfl ?_) | ((with_reducible refine WayR.imp (fun K hK => ?_)); simp (disch := first | omega | (simp only [dls]; omega)) only [std, reduceIte, reduceCtorEq, Int.reduceToNat, Nat.reduceAdd, Nat.reduceSub, Nat.reduceMul, Int.reduceAdd, Int.reduceSub, Int.reduceMul, Int.reduceNeg, fU, fPd, hxl, hxe, n0, hy1, hy2]; subst hK))
        refine ⟨(i + 1, out ++ [((sAt l i : Nat) : Int)], v + 1, true, false), ?hI9, ?hM9, Fgt.head (Nat.zero_le 1) [true, false, false, true, true, false, false, false, false, false, false, false, false, false, true, true, true] ?hT9 ?hH9⟩
        case hT9 => first | (simp (disch := omega) only [hds, liveT, cleanAV, cleanCell, clean1, cleanBlk, reduceIte, Int.reduceSub, Int.reduceAdd, Int.reduceNeg, eA, List.isEmpty_cons, Bool.or_true, Bool.not_false]; done) | rfl
        case hH9 => first | (simp (disch := omega) only [hds, liveT, cleanAV, cleanCell, clean1, cleanBlk, reduceIte, Int.reduceSub, Int.reduceAdd, Int.reduceNeg, eA, List.isEmpty_cons, Bool.or_true, Bool.not_false]; done) | rfl
        · dsimp only; exact ⟨hlt, by rw [hsu, ho], by cases out <;> rfl, hr⟩
        · dsimp only; omega
      by_cases cc6 : u = true ∧ y1 = false ∧ y2 = true
      · obtain ⟨rfl, rfl, rfl⟩ := cc6
        have hr := hfin false rfl
        repeat (first | (with_reducible first | refine Way.imp ?_ | refine blk_o rfl ?_) | ((with_reducible refine WayR.imp (fun K hK => ?_)); simp (disch := first | omega | (simp only [dls]; omega)) only [std, reduceIte, reduceCtorEq, Int.reduceToNat, Nat.reduceAdd, Nat.reduceSub, Nat.reduceMul, Int.reduceAdd, Int.reduceSub, Int.reduceMul, Int.reduceNeg, fU, fPd, hxl, hxe, n0, hy1, hy2]; subst hK))
        refine ⟨(i + 1, out ++ [((sAt l i : Nat) : Int)], v + 1, true, false), ?hI10, ?hM10, Fgt.head (Nat.zero_le 1) [true, false, false, true, true, false, false, false, false, false, false, false, false, false, true, true, true] ?hT10 ?hH10⟩
        case hT10 => first | (simp (disch := omega) only [hds, liveT, cleanAV, cleanCell, clean1, cleanBlk, reduceIte, Int.reduceSub, Int.reduceAdd, Int.reduceNeg, eA, List.isEmpty_cons, Bool.or_true, Bool.not_false]; done) | rfl
        case hH10 => first | (simp (disch := omega) only [hds, liveT, cleanAV, cleanCell, clean1, cleanBlk, reduceIte, Int.reduceSub, Int.reduceAdd, Int.reduceNeg, eA, List.isEmpty_cons, Bool.or_true, Bool.not_false]; done) | rfl
        · dsimp only; exact ⟨hlt, by rw [hsu, ho], by cases out <;> rfl, hr⟩
        · dsimp only; omega
      by_cases cc7 : u = true ∧ y1 = true ∧ y2 = false
      · obtain ⟨rfl, rfl, rfl⟩ := cc7
        have hr := hfin false rfl
        repeat (first | (with_reducible first | refine Way.imp ?_ | refine blk_o rfl ?_) | ((with_reducible refine WayR.imp (fun K hK => ?_)); simp (disch := first | omega | (simp only [dls]; omega)) only [std, reduceIte, reduceCtorEq, Int.reduceToNat, Nat.reduceAdd, Nat.reduceSub, Nat.reduceMul, Int.reduceAdd, Int.reduceSub, Int.reduceMul, Int.reduceNeg, fU, fPd, hxl, hxe, n0, hy1, hy2]; subst hK))
        refine ⟨(i + 1, out ++ [((sAt l i : Nat) : Int)], v + 1, true, false), ?hI11, ?hM11, Fgt.head (Nat.zero_le 1) [true, false, false, true, true, false, false, false, false, false, false, false, false, false, true, true, true] ?hT11 ?hH11⟩
        case hT11 => first | (simp (disch := omega) only [hds, liveT, cleanAV, cleanCell, clean1, cleanBlk, reduceIte, Int.reduceSub, Int.reduceAdd, Int.reduceNeg, eA, List.isEmpty_cons, Bool.or_true, Bool.not_false]; done) | rfl
        case hH11 => first | (simp (disch := omega) only [hds, liveT, cleanAV, cleanCell, clean1, cleanBlk, reduceIte, Int.reduceSub, Int.reduceAdd, Int.reduceNeg, eA, List.isEmpty_cons, Bool.or_true, Bool.not_false]; done) | rfl
        · dsimp only; exact ⟨hlt, by rw [hsu, ho], by cases out <;> rfl, hr⟩
        · dsimp only; omega
      by_cases cc8 : u = true ∧ y1 = true ∧ y2 = true
      · obtain ⟨rfl, rfl, rfl⟩ := cc8
        have hr := hfin true rfl
        repeat (first | (with_reducible first | refine Way.imp ?_ | refine blk_o rfl ?_) | ((with_reducible refine WayR.imp (fun K hK => ?_)); simp (disch := first | omega | (simp only [dls]; omega)) only [std, reduceIte, reduceCtorEq, Int.reduceToNat, Nat.reduceAdd, Nat.reduceSub, Nat.reduceMul, Int.reduceAdd, Int.reduceSub, Int.reduceMul, Int.reduceNeg, fU, fPd, hxl, hxe, n0, hy1, hy2]; subst hK))
        refine ⟨(i + 1, out ++ [((sAt l i : Nat) : Int)], v + 1, true, true), ?hI12, ?hM12, Fgt.head (Nat.zero_le 1) [true, false, false, true, true, false, false, false, false, false, false, false, false, false, true, true, true] ?hT12 ?hH12⟩
        case hT12 => first | (simp (disch := omega) only [hds, liveT, cleanAV, cleanCell, clean1, cleanBlk, reduceIte, Int.reduceSub, Int.reduceAdd, Int.reduceNeg, eA, List.isEmpty_cons, Bool.or_true, Bool.not_false]; done) | rfl
        case hH12 => first | (simp (disch := omega) only [hds, liveT, cleanAV, cleanCell, clean1, cleanBlk, reduceIte, Int.reduceSub, Int.reduceAdd, Int.reduceNeg, eA, List.isEmpty_cons, Bool.or_true, Bool.not_false]; done) | rfl
        · dsimp only; exact ⟨hlt, by rw [hsu, ho], by cases out <;> rfl, hr⟩
        · dsimp only; omega
      exfalso
      have b1 : u = true ∨ u = false := by cases u <;> simp
      have b2 : y1 = true ∨ y1 = false := by cases y1 <;> simp
      have b3 : y2 = true ∨ y2 = false := by cases y2 <;> simp
      rcases b1 with h1 | h1 <;> rcases b2 with h2 | h2 <;> rcases b3 with h3 | h3 <;>
        first | exact cc1 ⟨h1, h2, h3⟩ | exact cc2 ⟨h1, h2, h3⟩ | exact cc3 ⟨h1, h2, h3⟩ | exact cc4 ⟨h1, h2, h3⟩ | exact cc5 ⟨h1, h2, h3⟩ | exact cc6 ⟨h1, h2, h3⟩ | exact cc7 ⟨h1, h2, h3⟩ | exact cc8 ⟨h1, h2, h3⟩

end Go.Proofs.YtdhkdnmefeeclaaDoor
