/- The law ShapeFits: the walk. -/
import Derived.Test.YtdhkdnmefeeclaaX4
set_option linter.unusedSimpArgs false
set_option linter.unusedVariables false
set_option linter.unnecessarySimpa false
set_option linter.unusedSimpArgs false
set_option linter.unusedVariables false
set_option maxRecDepth 100000
set_option maxHeartbeats 4000000
namespace Go.Proofs.Ytdhkdnmefeeclaa
open Go Go.Am Go.Proofs Go.RowKit Go.Off

abbrev c14_k1 : CC := (.seq (.reg [⟨(some 64), none, (.load 3 true (.tmp 2))⟩, ⟨(some 65), none, (.mv (.tmp 1))⟩, ⟨(some 66), none, (.callf (.func 69) [(.tmp 64), (.tmp 65)])⟩, ⟨(some 67), none, (.mv (.tmp 5))⟩, ⟨(some 68), none, (.beq false (.tmp 66) (.tmp 67))⟩, ⟨(some 69), none, (.mv (.tmp 68))⟩, ⟨(some 70), (some (69, true)), (.load 3 true (.tmp 2))⟩, ⟨(some 71), (some (69, true)), (.callf (.func 70) [(.tmp 70)])⟩, ⟨(some 72), (some (69, true)), (.load 3 true (.tmp 2))⟩, ⟨(some 73), (some (69, true)), (.callf (.func 68) [(.tmp 72)])⟩, ⟨(some 74), (some (69, true)), (.beq false (.tmp 71) (.tmp 73))⟩, ⟨(some 75), none, (.pick (.tmp 69) (.tmp 74) (.const (.bool false)))⟩, ⟨(some 76), none, (.mv (.tmp 75))⟩, ⟨(some 77), (some (76, true)), (.callf (.func 67) [])⟩, ⟨(some 78), none, (.pick (.tmp 76) (.tmp 77) (.const (.bool false)))⟩, ⟨(some 4), none, (.mv (.tmp 78))⟩]) .ret)
abbrev c14_b1 : CC := (.seq (.reg [⟨(some 46), none, (.bin .lss (.tmp 45) (.tmp 44))⟩]) (.seq (.cond (.tmp 46) .skip (.exit 2)) (.seq (.block 3 (.seq (.reg [⟨(some 47), none, (.mv (.tmp 45))⟩, ⟨(some 48), none, (.iaddr 1 none (.tmp 43) (.tmp 45))⟩, ⟨(some 49), none, (.load 1 false (.tmp 48))⟩, ⟨(some 8), none, (.mv (.tmp 47))⟩, ⟨(some 9), none, (.mv (.tmp 49))⟩]) (.reg [⟨(some 50), none, (.mv (.tmp 5))⟩, ⟨(some 51), none, (.mv (.tmp 50))⟩, ⟨(some 52), (some (51, true)), (.mv (.tmp 9))⟩, ⟨(some 53), (some (51, true)), (.mv (.tmp 1))⟩, ⟨(some 54), (some (51, true)), (.callf (.func 41) [(.tmp 52), (.tmp 53)])⟩, ⟨(some 55), (some (51, true)), (.faddr 1 (.tmp 2))⟩, ⟨(some 56), (some (51, true)), (.load 1 false (.tmp 55))⟩, ⟨(some 57), (some (51, true)), (.mv (.tmp 8))⟩, ⟨(some 58), (some (51, true)), (.iaddr 3 none (.tmp 56) (.tmp 57))⟩, ⟨(some 59), (some (51, true)), (.load 3 true (.tmp 58))⟩, ⟨(some 60), (some (51, true)), (.callf (.func 46) [(.tmp 54), (.tmp 59)])⟩, ⟨(some 61), (some (51, true)), (.bin .eql (.tmp 60) (.const (.int .i64 (0))))⟩, ⟨(some 62), none, (.pick (.tmp 51) (.tmp 61) (.const (.bool false)))⟩, ⟨(some 5), none, (.mv (.tmp 62))⟩]))) (.reg [⟨(some 63), none, (.bin .add (.tmp 45) (.const (.int .i64 (1))))⟩, ⟨(some 45), none, (.mv (.tmp 63))⟩]))))
abbrev c14_k2 : CC := (.seq (.seq (.reg [⟨(some 42), none, (.faddr 0 (.tmp 2))⟩, ⟨(some 43), none, (.load 1 false (.tmp 42))⟩, ⟨(some 44), none, (.len false (.tmp 43))⟩, ⟨(some 45), none, (.mv (.const (.int .i64 (0))))⟩]) (.block 2 (.loop c14_b1))) c14_k1)
abbrev c14_b2 : CC := (.seq (.reg [⟨(some 32), none, (.bin .lss (.tmp 31) (.tmp 30))⟩]) (.seq (.cond (.tmp 32) .skip (.exit 0)) (.seq (.block 1 (.seq (.reg [⟨(some 33), none, (.iaddr 3 none (.tmp 29) (.tmp 31))⟩, ⟨(some 34), none, (.load 3 true (.tmp 33))⟩, ⟨(some 7), none, (.new 40 [(.bool false), (.slice none 0 0), (.slice none 0 0)])⟩, ⟨none, none, (.store 3 (.tmp 7) (.tmp 34))⟩]) (.reg [⟨(some 35), none, (.mv (.tmp 5))⟩, ⟨(some 36), none, (.mv (.tmp 35))⟩, ⟨(some 37), (some (36, true)), (.load 3 true (.tmp 7))⟩, ⟨(some 38), (some (36, true)), (.callf (.func 33) [(.tmp 37)])⟩, ⟨(some 39), (some (36, true)), (.bin .geq (.tmp 38) (.const (.int .i64 (0))))⟩, ⟨(some 40), none, (.pick (.tmp 36) (.tmp 39) (.const (.bool false)))⟩, ⟨(some 5), none, (.mv (.tmp 40))⟩]))) (.reg [⟨(some 41), none, (.bin .add (.tmp 31) (.const (.int .i64 (1))))⟩, ⟨(some 31), none, (.mv (.tmp 41))⟩]))))
abbrev c14 : CC := (.seq (.reg [⟨(some 2), none, (.box 86 (.tmp 0))⟩, ⟨(some 4), none, (.mv (.const (.bool false)))⟩]) (.seq (.seq (.reg [⟨(some 10), none, (.load 3 true (.tmp 2))⟩, ⟨(some 11), none, (.callf (.func 66) [(.tmp 10)])⟩, ⟨(some 12), none, (.un .not (.tmp 11))⟩, ⟨(some 13), none, (.mv (.tmp 12))⟩, ⟨(some 14), (some (13, false)), (.mv (.tmp 1))⟩, ⟨(some 15), (some (13, false)), (.callf (.func 26) [(.tmp 14)])⟩, ⟨(some 16), (some (13, false)), (.un .not (.tmp 15))⟩, ⟨(some 17), none, (.pick (.tmp 13) (.const (.bool true)) (.tmp 16))⟩]) (.cond (.tmp 17) (.seq (.reg [⟨(some 18), none, (.callf (.func 67) [])⟩, ⟨(some 4), none, (.mv (.tmp 18))⟩]) .ret) .skip)) (.seq (.reg [⟨(some 19), none, (.load 3 true (.tmp 2))⟩, ⟨(some 20), none, (.callf (.func 68) [(.tmp 19)])⟩, ⟨(some 21), none, (.mv (.tmp 20))⟩, ⟨(some 22), (some (21, true)), (.mv (.tmp 1))⟩, ⟨(some 23), (some (21, true)), (.len false (.tmp 22))⟩, ⟨(some 24), (some (21, true)), (.faddr 2 (.tmp 2))⟩, ⟨(some 25), (some (21, true)), (.load 1 false (.tmp 24))⟩, ⟨(some 26), (some (21, true)), (.len false (.tmp 25))⟩, ⟨(some 27), (some (21, true)), (.bin .eql (.tmp 23) (.tmp 26))⟩, ⟨(some 28), none, (.pick (.tmp 21) (.tmp 27) (.const (.bool false)))⟩, ⟨(some 5), none, (.mv (.tmp 28))⟩]) (.seq (.seq (.reg [⟨(some 29), none, (.mv (.tmp 1))⟩, ⟨(some 30), none, (.len false (.tmp 29))⟩, ⟨(some 31), none, (.mv (.const (.int .i64 (0))))⟩]) (.block 0 (.loop c14_b2))) c14_k2))))
theorem cc14 : ccode Try.prog [] (Try.f14.body.getD .skip) = some c14 := by kernel_rfl
theorem body14 : Try.f14.body = some (Try.f14.body.getD .skip) := rfl

theorem shapeFits_C (p : PB) (x : VV) : PureC Try.prog 14 [aP p, aV x] (.ret (aB true)) := by
  have hf := fewP_C p
  have hfx := few_C x
  have haw := awake11_C
  cases c1 : fewP p with
  | false =>
    rw [c1] at hf
    refine pureC_of (rs := [(RV.tmp 4)]) Try.func14 (fun a w => Try.call14 a w) body14 cc14 (by kernel_rfl) ?_
    rw [Try.ntmps14]
    simp only [frs, Nat.reduceAdd, Nat.reduceSub]
    repeat (first | (with_reducible first | refine Way.imp ?_ | refine blk_o rfl ?_) | ((with_reducible refine WayR.imp (fun K hK => ?_)); simp (disch := first | omega | (simp only [dls]; omega)) only [std, reduceIte, reduceCtorEq, Int.reduceToNat, Nat.reduceAdd, Nat.reduceSub, Nat.reduceMul, Int.reduceAdd, Int.reduceSub, Int.reduceMul, Int.reduceNeg, fU]; subst hK) | refine zcA (hf) rfl rfl rfl ?_ | refine zcA (haw) rfl rfl rfl ?_)
    exact ⟨_, rfl, rfl⟩
  | true =>
  rw [c1] at hf
  cases c2 : fewB x with
  | false =>
    rw [c2] at hfx
    refine pureC_of (rs := [(RV.tmp 4)]) Try.func14 (fun a w => Try.call14 a w) body14 cc14 (by kernel_rfl) ?_
    rw [Try.ntmps14]
    simp only [frs, Nat.reduceAdd, Nat.reduceSub]
    repeat (first | (with_reducible first | refine Way.imp ?_ | refine blk_o rfl ?_) | ((with_reducible refine WayR.imp (fun K hK => ?_)); simp (disch := first | omega | (simp only [dls]; omega)) only [std, reduceIte, reduceCtorEq, Int.reduceToNat, Nat.reduceAdd, Nat.reduceSub, Nat.reduceMul, Int.reduceAdd, Int.reduceSub, Int.reduceMul, Int.reduceNeg, fU]; subst hK) | refine zcA (hf) rfl rfl rfl ?_ | (apply call_any_g (hfx) rfl; (case hg => simp (disch := first | omega | (simp only [dls]; omega)) only [std, reduceIte, reduceCtorEq, Int.reduceToNat, Nat.reduceAdd, Nat.reduceSub, Nat.reduceMul, Int.reduceAdd, Int.reduceSub, Int.reduceMul, Int.reduceNeg, fU]); (case hcl => (simp only [evs, St.ev, constAV, evl]; (repeat (first | exact closeAVs_nil | (apply closeAVs_cons; (first | (refine close_own3 rfl (by decide)) | (refine close_ownO rfl (by decide) ?_; assumption) | rfl)))); done)); (case hu => rfl)) | refine zcA (haw) rfl rfl rfl ?_)
    exact ⟨_, rfl, rfl⟩
  | true =>
  rw [c2] at hfx
  obtain ⟨fp, h4⟩ := fewP_fits c1
  have fx := fewB_fits c2
  have hx1 := fx.1
  have hr := rightP_C p (by omega)
  have hsr := sright_C p
  rw [rightP_eq fp h4] at hsr
  have hdo := does_C p x 8 3 fp fx (by decide) (by decide) (by decide)
  obtain ⟨w0, hw0⟩ : ∃ w0, w0 = (rightP p && decide ((osl x).length = (osl p.C).length)) := ⟨_, rfl⟩
  have hdb : doesB p x = ((w0 && !anyI (pAt belowB x) (osl x).length) && doesTo p x (osl p.A).length) := by
    unfold doesB
    rw [rightP_eq fp h4, hw0, Bool.and_assoc, Bool.and_assoc]
  rw [hdb] at hdo
  have hBA : w0 = true → (osl p.B).length = (osl p.A).length := fun h => by
    rw [h] at hw0
    have := hw0.symm
    unfold rightP at this
    simp only [Bool.and_eq_true, decide_eq_true_eq] at this
    exact this.1.2
  have main : ∀ (b : Bool), b = rightP p → PureC Try.prog 68 [aP p] (.ret (aB b)) → PureC Try.prog 70 [aP p] (.ret (aB b)) → PureC Try.prog 14 [aP p, aV x] (.ret (aB true)) := by
    intro b hb hr hsr
    refine pureC_of (rs := [(RV.tmp 4)]) Try.func14 (fun a w => Try.call14 a w) body14 cc14 (by kernel_rfl) ?_
    rw [Try.ntmps14]
    simp only [frs, Nat.reduceAdd, Nat.reduceSub]
    have hcase : (b = true ∧ (osl x).length = (osl p.C).length ∧ w0 = true) ∨ (b = true ∧ (osl x).length ≠ (osl p.C).length ∧ w0 = false) ∨ (b = false ∧ w0 = false) := by
      rw [hw0, ← hb]
      cases b with
      | false => exact .inr (.inr ⟨rfl, rfl⟩)
      | true =>
        by_cases h : (osl x).length = (osl p.C).length
        · exact .inl ⟨rfl, h, by rw [decide_eq_true h]; rfl⟩
        · exact .inr (.inl ⟨rfl, h, by rw [decide_eq_false h]; rfl⟩)
    have hany0 : anyI (pAt belowB x) 0 = false := rfl
    have hdt0 : doesTo p x 0 = true := rfl
    rcases hcase with ⟨hb1, hlen, hw1⟩ | ⟨hb1, hlen, hw1⟩ | ⟨hb1, hw1⟩
    · subst hb1
      have hBl := hBA hw1
      rw [hw1, Bool.true_and] at hdo
      repeat (first | (with_reducible first | refine Way.imp ?_ | refine blk_o rfl ?_) | ((with_reducible refine WayR.imp (fun K hK => ?_)); simp (disch := first | omega | (simp only [dls]; omega)) only [std, reduceIte, reduceCtorEq, Int.reduceToNat, Nat.reduceAdd, Nat.reduceSub, Nat.reduceMul, Int.reduceAdd, Int.reduceSub, Int.reduceMul, Int.reduceNeg, fU, hlen]; subst hK) | refine zcA (hf) rfl rfl rfl ?_ | (apply call_any_g (hfx) rfl; (case hg => simp (disch := first | omega | (simp only [dls]; omega)) only [std, reduceIte, reduceCtorEq, Int.reduceToNat, Nat.reduceAdd, Nat.reduceSub, Nat.reduceMul, Int.reduceAdd, Int.reduceSub, Int.reduceMul, Int.reduceNeg, fU, hlen]); (case hcl => (simp only [evs, St.ev, constAV, evl]; (repeat (first | exact closeAVs_nil | (apply closeAVs_cons; (first | (refine close_own3 rfl (by decide)) | (refine close_ownO rfl (by decide) ?_; assumption) | rfl)))); done)); (case hu => rfl)) | refine zcA (hr) rfl rfl rfl ?_)
      refine awp_loop (fun (zz : Nat) => ⟨(.junk :: aV x :: .one (.ptr 0 0 0 0) :: .junk :: .junk :: aB (!anyI (pAt belowB x) zz) :: .junk :: .junk :: .junk :: .junk :: .junk :: .junk :: .junk :: .junk :: .junk :: .junk :: .junk :: .junk :: .junk :: .junk :: .junk :: .junk :: .junk :: .junk :: .junk :: .junk :: .junk :: .junk :: .junk :: aV x :: aI (osl x).length :: aI zz :: .junk :: .junk :: .junk :: .junk :: .junk :: .junk :: .junk :: .junk :: .junk :: .junk :: .junk :: .junk :: .junk :: .junk :: .junk :: .junk :: .junk :: .junk :: .junk :: .junk :: .junk :: .junk :: .junk :: .junk :: .junk :: .junk :: .junk :: .junk :: .junk :: .junk :: .junk :: .junk :: .junk :: .junk :: .junk :: .junk :: .junk :: .junk :: .junk :: .junk :: .junk :: .junk :: .junk :: .junk :: .junk :: .junk :: .junk :: []), [⟨0, 86, 3, [[.c (encSl 1 fM p.A), .c (vr p.B), .c (vr p.C)]], true, true⟩]⟩) (fun (zz : Nat) => zz ≤ (osl x).length) (fun (zz : Nat) => (osl x).length - zz) (0) ?hI1 (Fgt.head (Nat.zero_le 1) (false :: true :: true :: false :: false :: true :: false :: false :: false :: false :: false :: false :: false :: false :: false :: false :: false :: false :: false :: false :: false :: false :: false :: false :: false :: false :: false :: false :: false :: true :: true :: true :: []) ?hT1 ?hH1) ?hB1
      case hT1 => first | (simp (disch := omega) only [hds, liveT, cleanAV, cleanCell, clean1, cleanBlk, reduceIte, Int.reduceSub, Int.reduceAdd, Int.reduceNeg, hany0, Bool.not_false, hlen]; done) | rfl
      case hH1 => first | (simp (disch := omega) only [hds, liveT, cleanAV, cleanCell, clean1, cleanBlk, reduceIte, Int.reduceSub, Int.reduceAdd, Int.reduceNeg, hany0, Bool.not_false, hlen]; done) | rfl
      · exact Nat.zero_le _
      rintro i hi
      by_cases him : i = (osl x).length
      case neg =>
        have hlt : i < (osl x).length := by omega
        have hltC : i < (osl p.C).length := by omega
        have hsg := rsign_C (osl x)[i] ((fx.2 _ (List.getElem_mem hlt)).mono (by decide))
        have hsu := anyI_succ (pAt belowB x) i
        have hp : pAt belowB x i = belowB (osl x)[i] := by unfold pAt; rw [rAt_in hlt]
        rw [hp] at hsu
        have hge := sgn_ge (osl x)[i]
        generalize sgn (osl x)[i].top = sg at *
        cases h1 : anyI (pAt belowB x) i with
        | true =>
          rw [h1, Bool.true_or] at hsu
          repeat (first | (with_reducible first | refine Way.imp ?_ | refine blk_o rfl ?_) | ((with_reducible refine WayR.imp (fun K hK => ?_)); simp (disch := first | omega | (simp only [dls]; omega)) only [std, reduceIte, reduceCtorEq, Int.reduceToNat, Nat.reduceAdd, Nat.reduceSub, Nat.reduceMul, Int.reduceAdd, Int.reduceSub, Int.reduceMul, Int.reduceNeg, fU, fR, Bool.not_true]; subst hK))
          refine ⟨(i + 1), ?hI2, ?hM2, Fgt.head (Nat.zero_le 1) (false :: true :: true :: false :: false :: true :: false :: false :: false :: false :: false :: false :: false :: false :: false :: false :: false :: false :: false :: false :: false :: false :: false :: false :: false :: false :: false :: false :: false :: true :: true :: true :: []) ?hT2 ?hH2⟩
          case hT2 => first | (simp (disch := omega) only [hds, liveT, cleanAV, cleanCell, clean1, cleanBlk, reduceIte, Int.reduceSub, Int.reduceAdd, Int.reduceNeg, hsu, Bool.not_true]; done) | rfl
          case hH2 => first | (simp (disch := omega) only [hds, liveT, cleanAV, cleanCell, clean1, cleanBlk, reduceIte, Int.reduceSub, Int.reduceAdd, Int.reduceNeg, hsu, Bool.not_true]; done) | rfl
          · omega
          · omega
        | false =>
          rw [h1, Bool.false_or] at hsu
          cases h2 : belowB (osl x)[i] with
          | true =>
            rw [h2] at hsu hge
            have hlt2 : sg < 0 := by
              rcases Int.lt_or_le sg 0 with h | h
              · exact h
              · exact absurd (hge.1 h) (by decide)
            repeat (first | (with_reducible first | refine Way.imp ?_ | refine blk_o rfl ?_) | ((with_reducible refine WayR.imp (fun K hK => ?_)); simp (disch := first | omega | (simp only [dls]; omega)) only [std, reduceIte, reduceCtorEq, Int.reduceToNat, Nat.reduceAdd, Nat.reduceSub, Nat.reduceMul, Int.reduceAdd, Int.reduceSub, Int.reduceMul, Int.reduceNeg, fU, fR, Bool.not_false]; subst hK) | (apply call_any_g (hsg) rfl; (case hg => simp (disch := first | omega | (simp only [dls]; omega)) only [std, reduceIte, reduceCtorEq, Int.reduceToNat, Nat.reduceAdd, Nat.reduceSub, Nat.reduceMul, Int.reduceAdd, Int.reduceSub, Int.reduceMul, Int.reduceNeg, fU, fR, Bool.not_false]); (case hcl => (simp only [evs, St.ev, constAV, evl]; (repeat (first | exact closeAVs_nil | (apply closeAVs_cons; (first | (refine close_own3 rfl (by decide)) | (refine close_ownO rfl (by decide) ?_; assumption) | rfl)))); done)); (case hu => rfl)))
            refine ⟨(i + 1), ?hI3, ?hM3, Fgt.head (Nat.zero_le 1) (false :: true :: true :: false :: false :: true :: false :: false :: false :: false :: false :: false :: false :: false :: false :: false :: false :: false :: false :: false :: false :: false :: false :: false :: false :: false :: false :: false :: false :: true :: true :: true :: []) ?hT3 ?hH3⟩
            case hT3 => first | (simp (disch := omega) only [hds, liveT, cleanAV, cleanCell, clean1, cleanBlk, reduceIte, Int.reduceSub, Int.reduceAdd, Int.reduceNeg, hsu, Bool.not_true]; done) | rfl
            case hH3 => first | (simp (disch := omega) only [hds, liveT, cleanAV, cleanCell, clean1, cleanBlk, reduceIte, Int.reduceSub, Int.reduceAdd, Int.reduceNeg, hsu, Bool.not_true]; done) | rfl
            · omega
            · omega
          | false =>
            rw [h2] at hsu hge
            have hge2 : 0 ≤ sg := hge.2 rfl
            repeat (first | (with_reducible first | refine Way.imp ?_ | refine blk_o rfl ?_) | ((with_reducible refine WayR.imp (fun K hK => ?_)); simp (disch := first | omega | (simp only [dls]; omega)) only [std, reduceIte, reduceCtorEq, Int.reduceToNat, Nat.reduceAdd, Nat.reduceSub, Nat.reduceMul, Int.reduceAdd, Int.reduceSub, Int.reduceMul, Int.reduceNeg, fU, fR, Bool.not_false]; subst hK) | (apply call_any_g (hsg) rfl; (case hg => simp (disch := first | omega | (simp only [dls]; omega)) only [std, reduceIte, reduceCtorEq, Int.reduceToNat, Nat.reduceAdd, Nat.reduceSub, Nat.reduceMul, Int.reduceAdd, Int.reduceSub, Int.reduceMul, Int.reduceNeg, fU, fR, Bool.not_false]); (case hcl => (simp only [evs, St.ev, constAV, evl]; (repeat (first | exact closeAVs_nil | (apply closeAVs_cons; (first | (refine close_own3 rfl (by decide)) | (refine close_ownO rfl (by decide) ?_; assumption) | rfl)))); done)); (case hu => rfl)))
            refine ⟨(i + 1), ?hI4, ?hM4, Fgt.head (Nat.zero_le 1) (false :: true :: true :: false :: false :: true :: false :: false :: false :: false :: false :: false :: false :: false :: false :: false :: false :: false :: false :: false :: false :: false :: false :: false :: false :: false :: false :: false :: false :: true :: true :: true :: []) ?hT4 ?hH4⟩
            case hT4 => first | (simp (disch := omega) only [hds, liveT, cleanAV, cleanCell, clean1, cleanBlk, reduceIte, Int.reduceSub, Int.reduceAdd, Int.reduceNeg, hsu, Bool.not_false]; done) | rfl
            case hH4 => first | (simp (disch := omega) only [hds, liveT, cleanAV, cleanCell, clean1, cleanBlk, reduceIte, Int.reduceSub, Int.reduceAdd, Int.reduceNeg, hsu, Bool.not_false]; done) | rfl
            · omega
            · omega
      rw [him]
      repeat (first | (with_reducible first | refine Way.imp ?_ | refine blk_o rfl ?_) | ((with_reducible refine WayR.imp (fun K hK => ?_)); simp (disch := first | omega | (simp only [dls]; omega)) only [std, reduceIte, reduceCtorEq, Int.reduceToNat, Nat.reduceAdd, Nat.reduceSub, Nat.reduceMul, Int.reduceAdd, Int.reduceSub, Int.reduceMul, Int.reduceNeg, fU]; subst hK))
      refine awp_loop (fun (zz : Nat) => ⟨(.junk :: aV x :: .one (.ptr 0 0 0 0) :: .junk :: .junk :: aB (!anyI (pAt belowB x) (osl x).length && doesTo p x zz) :: .junk :: .junk :: .junk :: .junk :: .junk :: .junk :: .junk :: .junk :: .junk :: .junk :: .junk :: .junk :: .junk :: .junk :: .junk :: .junk :: .junk :: .junk :: .junk :: .junk :: .junk :: .junk :: .junk :: .junk :: .junk :: .junk :: .junk :: .junk :: .junk :: .junk :: .junk :: .junk :: .junk :: .junk :: .junk :: .junk :: .junk :: aM p.A :: aI (osl p.A).length :: aI zz :: .junk :: .junk :: .junk :: .junk :: .junk :: .junk :: .junk :: .junk :: .junk :: .junk :: .junk :: .junk :: .junk :: .junk :: .junk :: .junk :: .junk :: .junk :: .junk :: .junk :: .junk :: .junk :: .junk :: .junk :: .junk :: .junk :: .junk :: .junk :: .junk :: .junk :: .junk :: .junk :: .junk :: []), [⟨0, 86, 3, [[.c (encSl 1 fM p.A), .c (vr p.B), .c (vr p.C)]], true, true⟩]⟩) (fun (zz : Nat) => zz ≤ (osl p.A).length) (fun (zz : Nat) => (osl p.A).length - zz) (0) ?hI5 (Fgt.head (Nat.zero_le 1) (false :: true :: true :: false :: false :: true :: false :: false :: false :: false :: false :: false :: false :: false :: false :: false :: false :: false :: false :: false :: false :: false :: false :: false :: false :: false :: false :: false :: false :: false :: false :: false :: false :: false :: false :: false :: false :: false :: false :: false :: false :: false :: false :: true :: true :: true :: []) ?hT5 ?hH5) ?hB5
      case hT5 => first | (simp (disch := omega) only [hds, liveT, cleanAV, cleanCell, clean1, cleanBlk, reduceIte, Int.reduceSub, Int.reduceAdd, Int.reduceNeg, hdt0, Bool.and_true]; done) | rfl
      case hH5 => first | (simp (disch := omega) only [hds, liveT, cleanAV, cleanCell, clean1, cleanBlk, reduceIte, Int.reduceSub, Int.reduceAdd, Int.reduceNeg, hdt0, Bool.and_true]; done) | rfl
      · exact Nat.zero_le _
      rintro j hj
      by_cases hjm : j = (osl p.A).length
      case neg =>
        have hlt : j < (osl p.A).length := by omega
        have hltB : j < (osl p.B).length := by omega
        have hrf := fp.1.2 _ (List.getElem_mem hlt)
        have hd := dot_C (osl p.A)[j] x 8 3 hrf fx (by decide) (by decide) (by decide)
        have hfd := fits_dot hrf fx (by decide)
        have hfb := fp.2.1.2 _ (List.getElem_mem hltB)
        have hcm := rcompare_C (rawQ (dotV (osl p.A)[j] x)) (osl p.B)[j] ((fits_rawQ hfd).mono (by decide)) (hfb.mono (by decide))
        rw [rawQ_val] at hcm
        have hqb : qAt p.B j = (osl p.B)[j].val := by unfold qAt; rw [rAt_in hltB]
        have hsu := doesTo_succ p x j
        rw [mAt_in hlt, hqb] at hsu
        cases h1 : (!anyI (pAt belowB x) (osl x).length && doesTo p x j) with
        | false =>
          have hsu2 : (!anyI (pAt belowB x) (osl x).length && doesTo p x (j + 1)) = false := by rw [hsu, ← Bool.and_assoc, h1, Bool.false_and]
          repeat (first | (with_reducible first | refine Way.imp ?_ | refine blk_o rfl ?_) | ((with_reducible refine WayR.imp (fun K hK => ?_)); simp (disch := first | omega | (simp only [dls]; omega)) only [std, reduceIte, reduceCtorEq, Int.reduceToNat, Nat.reduceAdd, Nat.reduceSub, Nat.reduceMul, Int.reduceAdd, Int.reduceSub, Int.reduceMul, Int.reduceNeg, fU, fM]; subst hK))
          refine ⟨(j + 1), ?hI6, ?hM6, Fgt.head (Nat.zero_le 1) (false :: true :: true :: false :: false :: true :: false :: false :: false :: false :: false :: false :: false :: false :: false :: false :: false :: false :: false :: false :: false :: false :: false :: false :: false :: false :: false :: false :: false :: false :: false :: false :: false :: false :: false :: false :: false :: false :: false :: false :: false :: false :: false :: true :: true :: true :: []) ?hT6 ?hH6⟩
          case hT6 => first | (simp (disch := omega) only [hds, liveT, cleanAV, cleanCell, clean1, cleanBlk, reduceIte, Int.reduceSub, Int.reduceAdd, Int.reduceNeg, hsu2]; done) | rfl
          case hH6 => first | (simp (disch := omega) only [hds, liveT, cleanAV, cleanCell, clean1, cleanBlk, reduceIte, Int.reduceSub, Int.reduceAdd, Int.reduceNeg, hsu2]; done) | rfl
          · omega
          · omega
        | true =>
          by_cases he : dotV (osl p.A)[j] x = (osl p.B)[j].val
          · have hsu2 : (!anyI (pAt belowB x) (osl x).length && doesTo p x (j + 1)) = true := by rw [hsu, ← Bool.and_assoc, h1, decide_eq_true he]; rfl
            rw [he, cmp_eq] at hcm
            rw [he] at hd
            repeat (first | (with_reducible first | refine Way.imp ?_ | refine blk_o rfl ?_) | ((with_reducible refine WayR.imp (fun K hK => ?_)); simp (disch := first | omega | (simp only [dls]; omega)) only [std, reduceIte, reduceCtorEq, Int.reduceToNat, Nat.reduceAdd, Nat.reduceSub, Nat.reduceMul, Int.reduceAdd, Int.reduceSub, Int.reduceMul, Int.reduceNeg, fU, fM, fR]; subst hK) | (apply call_any_g (hd) rfl; (case hg => simp (disch := first | omega | (simp only [dls]; omega)) only [std, reduceIte, reduceCtorEq, Int.reduceToNat, Nat.reduceAdd, Nat.reduceSub, Nat.reduceMul, Int.reduceAdd, Int.reduceSub, Int.reduceMul, Int.reduceNeg, fU, fM, fR]); (case hcl => (simp only [evs, St.ev, constAV, evl]; (repeat (first | exact closeAVs_nil | (apply closeAVs_cons; (first | (refine close_own3 rfl (by decide)) | (refine close_ownO rfl (by decide) ?_; assumption) | rfl)))); done)); (case hu => rfl)) | (apply call_any_g (hcm) rfl; (case hg => simp (disch := first | omega | (simp only [dls]; omega)) only [std, reduceIte, reduceCtorEq, Int.reduceToNat, Nat.reduceAdd, Nat.reduceSub, Nat.reduceMul, Int.reduceAdd, Int.reduceSub, Int.reduceMul, Int.reduceNeg, fU, fM, fR]); (case hcl => (simp only [evs, St.ev, constAV, evl]; (repeat (first | exact closeAVs_nil | (apply closeAVs_cons; (first | (refine close_own3 rfl (by decide)) | (refine close_ownO rfl (by decide) ?_; assumption) | rfl)))); done)); (case hu => rfl)))
            refine ⟨(j + 1), ?hI7, ?hM7, Fgt.head (Nat.zero_le 1) (false :: true :: true :: false :: false :: true :: false :: false :: false :: false :: false :: false :: false :: false :: false :: false :: false :: false :: false :: false :: false :: false :: false :: false :: false :: false :: false :: false :: false :: false :: false :: false :: false :: false :: false :: false :: false :: false :: false :: false :: false :: false :: false :: true :: true :: true :: []) ?hT7 ?hH7⟩
            case hT7 => first | (simp (disch := omega) only [hds, liveT, cleanAV, cleanCell, clean1, cleanBlk, reduceIte, Int.reduceSub, Int.reduceAdd, Int.reduceNeg, hsu2]; done) | rfl
            case hH7 => first | (simp (disch := omega) only [hds, liveT, cleanAV, cleanCell, clean1, cleanBlk, reduceIte, Int.reduceSub, Int.reduceAdd, Int.reduceNeg, hsu2]; done) | rfl
            · omega
            · omega
          · have hsu2 : (!anyI (pAt belowB x) (osl x).length && doesTo p x (j + 1)) = false := by rw [hsu, ← Bool.and_assoc, h1, decide_eq_false he]; rfl
            have hne := cmpQ_ne he
            generalize cmpQ (dotV (osl p.A)[j] x) (osl p.B)[j].val = z at *
            repeat (first | (with_reducible first | refine Way.imp ?_ | refine blk_o rfl ?_) | ((with_reducible refine WayR.imp (fun K hK => ?_)); simp (disch := first | omega | (simp only [dls]; omega)) only [std, reduceIte, reduceCtorEq, Int.reduceToNat, Nat.reduceAdd, Nat.reduceSub, Nat.reduceMul, Int.reduceAdd, Int.reduceSub, Int.reduceMul, Int.reduceNeg, fU, fM, fR]; subst hK) | (apply call_any_g (hd) rfl; (case hg => simp (disch := first | omega | (simp only [dls]; omega)) only [std, reduceIte, reduceCtorEq, Int.reduceToNat, Nat.reduceAdd, Nat.reduceSub, Nat.reduceMul, Int.reduceAdd, Int.reduceSub, Int.reduceMul, Int.reduceNeg, fU, fM, fR]); (case hcl => (simp only [evs, St.ev, constAV, evl]; (repeat (first | exact closeAVs_nil | (apply closeAVs_cons; (first | (refine close_own3 rfl (by decide)) | (refine close_ownO rfl (by decide) ?_; assumption) | rfl)))); done)); (case hu => rfl)) | (apply call_any_g (hcm) rfl; (case hg => simp (disch := first | omega | (simp only [dls]; omega)) only [std, reduceIte, reduceCtorEq, Int.reduceToNat, Nat.reduceAdd, Nat.reduceSub, Nat.reduceMul, Int.reduceAdd, Int.reduceSub, Int.reduceMul, Int.reduceNeg, fU, fM, fR]); (case hcl => (simp only [evs, St.ev, constAV, evl]; (repeat (first | exact closeAVs_nil | (apply closeAVs_cons; (first | (refine close_own3 rfl (by decide)) | (refine close_ownO rfl (by decide) ?_; assumption) | rfl)))); done)); (case hu => rfl)))
            refine ⟨(j + 1), ?hI8, ?hM8, Fgt.head (Nat.zero_le 1) (false :: true :: true :: false :: false :: true :: false :: false :: false :: false :: false :: false :: false :: false :: false :: false :: false :: false :: false :: false :: false :: false :: false :: false :: false :: false :: false :: false :: false :: false :: false :: false :: false :: false :: false :: false :: false :: false :: false :: false :: false :: false :: false :: true :: true :: true :: []) ?hT8 ?hH8⟩
            case hT8 => first | (simp (disch := omega) only [hds, liveT, cleanAV, cleanCell, clean1, cleanBlk, reduceIte, Int.reduceSub, Int.reduceAdd, Int.reduceNeg, hsu2]; done) | rfl
            case hH8 => first | (simp (disch := omega) only [hds, liveT, cleanAV, cleanCell, clean1, cleanBlk, reduceIte, Int.reduceSub, Int.reduceAdd, Int.reduceNeg, hsu2]; done) | rfl
            · omega
            · omega
      rw [hjm]
      generalize (!anyI (pAt belowB x) (osl x).length && doesTo p x (osl p.A).length) = v at *
      repeat (first | (with_reducible first | refine Way.imp ?_ | refine blk_o rfl ?_) | ((with_reducible refine WayR.imp (fun K hK => ?_)); simp (disch := first | omega | (simp only [dls]; omega)) only [std, reduceIte, reduceCtorEq, Int.reduceToNat, Nat.reduceAdd, Nat.reduceSub, Nat.reduceMul, Int.reduceAdd, Int.reduceSub, Int.reduceMul, Int.reduceNeg, fU, beq_self_eq_true]; subst hK) | refine zcA (hdo) rfl rfl rfl ?_ | (apply call_any_g (hsr) rfl; (case hg => simp (disch := first | omega | (simp only [dls]; omega)) only [std, reduceIte, reduceCtorEq, Int.reduceToNat, Nat.reduceAdd, Nat.reduceSub, Nat.reduceMul, Int.reduceAdd, Int.reduceSub, Int.reduceMul, Int.reduceNeg, fU, beq_self_eq_true]); (case hcl => (simp only [evs, St.ev, constAV, evl]; (repeat (first | exact closeAVs_nil | (apply closeAVs_cons; (first | (refine close_own3 rfl (by decide)) | (refine close_ownO rfl (by decide) ?_; assumption) | rfl)))); done)); (case hu => rfl)) | (apply call_any_g (hr) rfl; (case hg => simp (disch := first | omega | (simp only [dls]; omega)) only [std, reduceIte, reduceCtorEq, Int.reduceToNat, Nat.reduceAdd, Nat.reduceSub, Nat.reduceMul, Int.reduceAdd, Int.reduceSub, Int.reduceMul, Int.reduceNeg, fU, beq_self_eq_true]); (case hcl => (simp only [evs, St.ev, constAV, evl]; (repeat (first | exact closeAVs_nil | (apply closeAVs_cons; (first | (refine close_own3 rfl (by decide)) | (refine close_ownO rfl (by decide) ?_; assumption) | rfl)))); done)); (case hu => rfl)) | (apply call_any_g (haw) rfl; (case hg => simp (disch := first | omega | (simp only [dls]; omega)) only [std, reduceIte, reduceCtorEq, Int.reduceToNat, Nat.reduceAdd, Nat.reduceSub, Nat.reduceMul, Int.reduceAdd, Int.reduceSub, Int.reduceMul, Int.reduceNeg, fU, beq_self_eq_true]); (case hcl => (simp only [evs, St.ev, constAV, evl]; (repeat (first | exact closeAVs_nil | (apply closeAVs_cons; (first | (refine close_own3 rfl (by decide)) | (refine close_ownO rfl (by decide) ?_; assumption) | rfl)))); done)); (case hu => rfl)))
      exact ⟨_, rfl, rfl⟩
    · subst hb1
      rw [hw1, Bool.false_and, Bool.false_and] at hdo
      repeat (first | (with_reducible first | refine Way.imp ?_ | refine blk_o rfl ?_) | ((with_reducible refine WayR.imp (fun K hK => ?_)); simp (disch := first | omega | (simp only [dls]; omega)) only [std, reduceIte, reduceCtorEq, Int.reduceToNat, Nat.reduceAdd, Nat.reduceSub, Nat.reduceMul, Int.reduceAdd, Int.reduceSub, Int.reduceMul, Int.reduceNeg, fU]; subst hK) | refine zcA (hf) rfl rfl rfl ?_ | (apply call_any_g (hfx) rfl; (case hg => simp (disch := first | omega | (simp only [dls]; omega)) only [std, reduceIte, reduceCtorEq, Int.reduceToNat, Nat.reduceAdd, Nat.reduceSub, Nat.reduceMul, Int.reduceAdd, Int.reduceSub, Int.reduceMul, Int.reduceNeg, fU]); (case hcl => (simp only [evs, St.ev, constAV, evl]; (repeat (first | exact closeAVs_nil | (apply closeAVs_cons; (first | (refine close_own3 rfl (by decide)) | (refine close_ownO rfl (by decide) ?_; assumption) | rfl)))); done)); (case hu => rfl)) | refine zcA (hr) rfl rfl rfl ?_)
      refine awp_loop (fun (zz : Nat) => ⟨(.junk :: aV x :: .one (.ptr 0 0 0 0) :: .junk :: .junk :: aB false :: .junk :: .junk :: .junk :: .junk :: .junk :: .junk :: .junk :: .junk :: .junk :: .junk :: .junk :: .junk :: .junk :: .junk :: .junk :: .junk :: .junk :: .junk :: .junk :: .junk :: .junk :: .junk :: .junk :: aV x :: aI (osl x).length :: aI zz :: .junk :: .junk :: .junk :: .junk :: .junk :: .junk :: .junk :: .junk :: .junk :: .junk :: .junk :: .junk :: .junk :: .junk :: .junk :: .junk :: .junk :: .junk :: .junk :: .junk :: .junk :: .junk :: .junk :: .junk :: .junk :: .junk :: .junk :: .junk :: .junk :: .junk :: .junk :: .junk :: .junk :: .junk :: .junk :: .junk :: .junk :: .junk :: .junk :: .junk :: .junk :: .junk :: .junk :: .junk :: .junk :: .junk :: .junk :: []), [⟨0, 86, 3, [[.c (encSl 1 fM p.A), .c (vr p.B), .c (vr p.C)]], true, true⟩]⟩) (fun (zz : Nat) => zz ≤ (osl x).length) (fun (zz : Nat) => (osl x).length - zz) (0) ?hI9 (Fgt.head (Nat.zero_le 1) (false :: true :: true :: false :: false :: true :: false :: false :: false :: false :: false :: false :: false :: false :: false :: false :: false :: false :: false :: false :: false :: false :: false :: false :: false :: false :: false :: false :: false :: true :: true :: true :: []) ?hT9 ?hH9) ?hB9
      case hT9 => first | (simp (disch := omega) only [hds, liveT, cleanAV, cleanCell, clean1, cleanBlk, reduceIte, Int.reduceSub, Int.reduceAdd, Int.reduceNeg]; done) | rfl
      case hH9 => first | (simp (disch := omega) only [hds, liveT, cleanAV, cleanCell, clean1, cleanBlk, reduceIte, Int.reduceSub, Int.reduceAdd, Int.reduceNeg]; done) | rfl
      · exact Nat.zero_le _
      rintro i hi
      by_cases him : i = (osl x).length
      case neg =>
        have hlt : i < (osl x).length := by omega
        repeat (first | (with_reducible first | refine Way.imp ?_ | refine blk_o rfl ?_) | ((with_reducible refine WayR.imp (fun K hK => ?_)); simp (disch := first | omega | (simp only [dls]; omega)) only [std, reduceIte, reduceCtorEq, Int.reduceToNat, Nat.reduceAdd, Nat.reduceSub, Nat.reduceMul, Int.reduceAdd, Int.reduceSub, Int.reduceMul, Int.reduceNeg, fU, fR]; subst hK))
        refine ⟨(i + 1), ?hI10, ?hM10, Fgt.head (Nat.zero_le 1) (false :: true :: true :: false :: false :: true :: false :: false :: false :: false :: false :: false :: false :: false :: false :: false :: false :: false :: false :: false :: false :: false :: false :: false :: false :: false :: false :: false :: false :: true :: true :: true :: []) ?hT10 ?hH10⟩
        case hT10 => first | (simp (disch := omega) only [hds, liveT, cleanAV, cleanCell, clean1, cleanBlk, reduceIte, Int.reduceSub, Int.reduceAdd, Int.reduceNeg]; done) | rfl
        case hH10 => first | (simp (disch := omega) only [hds, liveT, cleanAV, cleanCell, clean1, cleanBlk, reduceIte, Int.reduceSub, Int.reduceAdd, Int.reduceNeg]; done) | rfl
        · omega
        · omega
      repeat (first | (with_reducible first | refine Way.imp ?_ | refine blk_o rfl ?_) | ((with_reducible refine WayR.imp (fun K hK => ?_)); simp (disch := first | omega | (simp only [dls]; omega)) only [std, reduceIte, reduceCtorEq, Int.reduceToNat, Nat.reduceAdd, Nat.reduceSub, Nat.reduceMul, Int.reduceAdd, Int.reduceSub, Int.reduceMul, Int.reduceNeg, fU]; subst hK))
      refine awp_loop (fun (zz : Nat) => ⟨(.junk :: aV x :: .one (.ptr 0 0 0 0) :: .junk :: .junk :: aB false :: .junk :: .junk :: .junk :: .junk :: .junk :: .junk :: .junk :: .junk :: .junk :: .junk :: .junk :: .junk :: .junk :: .junk :: .junk :: .junk :: .junk :: .junk :: .junk :: .junk :: .junk :: .junk :: .junk :: .junk :: .junk :: .junk :: .junk :: .junk :: .junk :: .junk :: .junk :: .junk :: .junk :: .junk :: .junk :: .junk :: .junk :: aM p.A :: aI (osl p.A).length :: aI zz :: .junk :: .junk :: .junk :: .junk :: .junk :: .junk :: .junk :: .junk :: .junk :: .junk :: .junk :: .junk :: .junk :: .junk :: .junk :: .junk :: .junk :: .junk :: .junk :: .junk :: .junk :: .junk :: .junk :: .junk :: .junk :: .junk :: .junk :: .junk :: .junk :: .junk :: .junk :: .junk :: .junk :: []), [⟨0, 86, 3, [[.c (encSl 1 fM p.A), .c (vr p.B), .c (vr p.C)]], true, true⟩]⟩) (fun (zz : Nat) => zz ≤ (osl p.A).length) (fun (zz : Nat) => (osl p.A).length - zz) (0) ?hI11 (Fgt.head (Nat.zero_le 1) (false :: true :: true :: false :: false :: true :: false :: false :: false :: false :: false :: false :: false :: false :: false :: false :: false :: false :: false :: false :: false :: false :: false :: false :: false :: false :: false :: false :: false :: false :: false :: false :: false :: false :: false :: false :: false :: false :: false :: false :: false :: false :: false :: true :: true :: true :: []) ?hT11 ?hH11) ?hB11
      case hT11 => first | (simp (disch := omega) only [hds, liveT, cleanAV, cleanCell, clean1, cleanBlk, reduceIte, Int.reduceSub, Int.reduceAdd, Int.reduceNeg]; done) | rfl
      case hH11 => first | (simp (disch := omega) only [hds, liveT, cleanAV, cleanCell, clean1, cleanBlk, reduceIte, Int.reduceSub, Int.reduceAdd, Int.reduceNeg]; done) | rfl
      · exact Nat.zero_le _
      rintro j hj
      by_cases hjm : j = (osl p.A).length
      case neg =>
        have hlt : j < (osl p.A).length := by omega
        repeat (first | (with_reducible first | refine Way.imp ?_ | refine blk_o rfl ?_) | ((with_reducible refine WayR.imp (fun K hK => ?_)); simp (disch := first | omega | (simp only [dls]; omega)) only [std, reduceIte, reduceCtorEq, Int.reduceToNat, Nat.reduceAdd, Nat.reduceSub, Nat.reduceMul, Int.reduceAdd, Int.reduceSub, Int.reduceMul, Int.reduceNeg, fU, fM]; subst hK))
        refine ⟨(j + 1), ?hI12, ?hM12, Fgt.head (Nat.zero_le 1) (false :: true :: true :: false :: false :: true :: false :: false :: false :: false :: false :: false :: false :: false :: false :: false :: false :: false :: false :: false :: false :: false :: false :: false :: false :: false :: false :: false :: false :: false :: false :: false :: false :: false :: false :: false :: false :: false :: false :: false :: false :: false :: false :: true :: true :: true :: []) ?hT12 ?hH12⟩
        case hT12 => first | (simp (disch := omega) only [hds, liveT, cleanAV, cleanCell, clean1, cleanBlk, reduceIte, Int.reduceSub, Int.reduceAdd, Int.reduceNeg]; done) | rfl
        case hH12 => first | (simp (disch := omega) only [hds, liveT, cleanAV, cleanCell, clean1, cleanBlk, reduceIte, Int.reduceSub, Int.reduceAdd, Int.reduceNeg]; done) | rfl
        · omega
        · omega
      repeat (first | (with_reducible first | refine Way.imp ?_ | refine blk_o rfl ?_) | ((with_reducible refine WayR.imp (fun K hK => ?_)); simp (disch := first | omega | (simp only [dls]; omega)) only [std, reduceIte, reduceCtorEq, Int.reduceToNat, Nat.reduceAdd, Nat.reduceSub, Nat.reduceMul, Int.reduceAdd, Int.reduceSub, Int.reduceMul, Int.reduceNeg, fU, beq_self_eq_true]; subst hK) | refine zcA (hdo) rfl rfl rfl ?_ | (apply call_any_g (hsr) rfl; (case hg => simp (disch := first | omega | (simp only [dls]; omega)) only [std, reduceIte, reduceCtorEq, Int.reduceToNat, Nat.reduceAdd, Nat.reduceSub, Nat.reduceMul, Int.reduceAdd, Int.reduceSub, Int.reduceMul, Int.reduceNeg, fU, beq_self_eq_true]); (case hcl => (simp only [evs, St.ev, constAV, evl]; (repeat (first | exact closeAVs_nil | (apply closeAVs_cons; (first | (refine close_own3 rfl (by decide)) | (refine close_ownO rfl (by decide) ?_; assumption) | rfl)))); done)); (case hu => rfl)) | (apply call_any_g (hr) rfl; (case hg => simp (disch := first | omega | (simp only [dls]; omega)) only [std, reduceIte, reduceCtorEq, Int.reduceToNat, Nat.reduceAdd, Nat.reduceSub, Nat.reduceMul, Int.reduceAdd, Int.reduceSub, Int.reduceMul, Int.reduceNeg, fU, beq_self_eq_true]); (case hcl => (simp only [evs, St.ev, constAV, evl]; (repeat (first | exact closeAVs_nil | (apply closeAVs_cons; (first | (refine close_own3 rfl (by decide)) | (refine close_ownO rfl (by decide) ?_; assumption) | rfl)))); done)); (case hu => rfl)) | (apply call_any_g (haw) rfl; (case hg => simp (disch := first | omega | (simp only [dls]; omega)) only [std, reduceIte, reduceCtorEq, Int.reduceToNat, Nat.reduceAdd, Nat.reduceSub, Nat.reduceMul, Int.reduceAdd, Int.reduceSub, Int.reduceMul, Int.reduceNeg, fU, beq_self_eq_true]); (case hcl => (simp only [evs, St.ev, constAV, evl]; (repeat (first | exact closeAVs_nil | (apply closeAVs_cons; (first | (refine close_own3 rfl (by decide)) | (refine close_ownO rfl (by decide) ?_; assumption) | rfl)))); done)); (case hu => rfl)))
      exact ⟨_, rfl, rfl⟩
    · subst hb1
      rw [hw1, Bool.false_and, Bool.false_and] at hdo
      repeat (first | (with_reducible first | refine Way.imp ?_ | refine blk_o rfl ?_) | ((with_reducible refine WayR.imp (fun K hK => ?_)); simp (disch := first | omega | (simp only [dls]; omega)) only [std, reduceIte, reduceCtorEq, Int.reduceToNat, Nat.reduceAdd, Nat.reduceSub, Nat.reduceMul, Int.reduceAdd, Int.reduceSub, Int.reduceMul, Int.reduceNeg, fU]; subst hK) | refine zcA (hf) rfl rfl rfl ?_ | (apply call_any_g (hfx) rfl; (case hg => simp (disch := first | omega | (simp only [dls]; omega)) only [std, reduceIte, reduceCtorEq, Int.reduceToNat, Nat.reduceAdd, Nat.reduceSub, Nat.reduceMul, Int.reduceAdd, Int.reduceSub, Int.reduceMul, Int.reduceNeg, fU]); (case hcl => (simp only [evs, St.ev, constAV, evl]; (repeat (first | exact closeAVs_nil | (apply closeAVs_cons; (first | (refine close_own3 rfl (by decide)) | (refine close_ownO rfl (by decide) ?_; assumption) | rfl)))); done)); (case hu => rfl)) | refine zcA (hr) rfl rfl rfl ?_)
      refine awp_loop (fun (zz : Nat) => ⟨(.junk :: aV x :: .one (.ptr 0 0 0 0) :: .junk :: .junk :: aB false :: .junk :: .junk :: .junk :: .junk :: .junk :: .junk :: .junk :: .junk :: .junk :: .junk :: .junk :: .junk :: .junk :: .junk :: .junk :: .junk :: .junk :: .junk :: .junk :: .junk :: .junk :: .junk :: .junk :: aV x :: aI (osl x).length :: aI zz :: .junk :: .junk :: .junk :: .junk :: .junk :: .junk :: .junk :: .junk :: .junk :: .junk :: .junk :: .junk :: .junk :: .junk :: .junk :: .junk :: .junk :: .junk :: .junk :: .junk :: .junk :: .junk :: .junk :: .junk :: .junk :: .junk :: .junk :: .junk :: .junk :: .junk :: .junk :: .junk :: .junk :: .junk :: .junk :: .junk :: .junk :: .junk :: .junk :: .junk :: .junk :: .junk :: .junk :: .junk :: .junk :: .junk :: .junk :: []), [⟨0, 86, 3, [[.c (encSl 1 fM p.A), .c (vr p.B), .c (vr p.C)]], true, true⟩]⟩) (fun (zz : Nat) => zz ≤ (osl x).length) (fun (zz : Nat) => (osl x).length - zz) (0) ?hI13 (Fgt.head (Nat.zero_le 1) (false :: true :: true :: false :: false :: true :: false :: false :: false :: false :: false :: false :: false :: false :: false :: false :: false :: false :: false :: false :: false :: false :: false :: false :: false :: false :: false :: false :: false :: true :: true :: true :: []) ?hT13 ?hH13) ?hB13
      case hT13 => first | (simp (disch := omega) only [hds, liveT, cleanAV, cleanCell, clean1, cleanBlk, reduceIte, Int.reduceSub, Int.reduceAdd, Int.reduceNeg]; done) | rfl
      case hH13 => first | (simp (disch := omega) only [hds, liveT, cleanAV, cleanCell, clean1, cleanBlk, reduceIte, Int.reduceSub, Int.reduceAdd, Int.reduceNeg]; done) | rfl
      · exact Nat.zero_le _
      rintro i hi
      by_cases him : i = (osl x).length
      case neg =>
        have hlt : i < (osl x).length := by omega
        repeat (first | (with_reducible first | refine Way.imp ?_ | refine blk_o rfl ?_) | ((with_reducible refine WayR.imp (fun K hK => ?_)); simp (disch := first | omega | (simp only [dls]; omega)) only [std, reduceIte, reduceCtorEq, Int.reduceToNat, Nat.reduceAdd, Nat.reduceSub, Nat.reduceMul, Int.reduceAdd, Int.reduceSub, Int.reduceMul, Int.reduceNeg, fU, fR]; subst hK))
        refine ⟨(i + 1), ?hI14, ?hM14, Fgt.head (Nat.zero_le 1) (false :: true :: true :: false :: false :: true :: false :: false :: false :: false :: false :: false :: false :: false :: false :: false :: false :: false :: false :: false :: false :: false :: false :: false :: false :: false :: false :: false :: false :: true :: true :: true :: []) ?hT14 ?hH14⟩
        case hT14 => first | (simp (disch := omega) only [hds, liveT, cleanAV, cleanCell, clean1, cleanBlk, reduceIte, Int.reduceSub, Int.reduceAdd, Int.reduceNeg]; done) | rfl
        case hH14 => first | (simp (disch := omega) only [hds, liveT, cleanAV, cleanCell, clean1, cleanBlk, reduceIte, Int.reduceSub, Int.reduceAdd, Int.reduceNeg]; done) | rfl
        · omega
        · omega
      repeat (first | (with_reducible first | refine Way.imp ?_ | refine blk_o rfl ?_) | ((with_reducible refine WayR.imp (fun K hK => ?_)); simp (disch := first | omega | (simp only [dls]; omega)) only [std, reduceIte, reduceCtorEq, Int.reduceToNat, Nat.reduceAdd, Nat.reduceSub, Nat.reduceMul, Int.reduceAdd, Int.reduceSub, Int.reduceMul, Int.reduceNeg, fU]; subst hK))
      refine awp_loop (fun (zz : Nat) => ⟨(.junk :: aV x :: .one (.ptr 0 0 0 0) :: .junk :: .junk :: aB false :: .junk :: .junk :: .junk :: .junk :: .junk :: .junk :: .junk :: .junk :: .junk :: .junk :: .junk :: .junk :: .junk :: .junk :: .junk :: .junk :: .junk :: .junk :: .junk :: .junk :: .junk :: .junk :: .junk :: .junk :: .junk :: .junk :: .junk :: .junk :: .junk :: .junk :: .junk :: .junk :: .junk :: .junk :: .junk :: .junk :: .junk :: aM p.A :: aI (osl p.A).length :: aI zz :: .junk :: .junk :: .junk :: .junk :: .junk :: .junk :: .junk :: .junk :: .junk :: .junk :: .junk :: .junk :: .junk :: .junk :: .junk :: .junk :: .junk :: .junk :: .junk :: .junk :: .junk :: .junk :: .junk :: .junk :: .junk :: .junk :: .junk :: .junk :: .junk :: .junk :: .junk :: .junk :: .junk :: []), [⟨0, 86, 3, [[.c (encSl 1 fM p.A), .c (vr p.B), .c (vr p.C)]], true, true⟩]⟩) (fun (zz : Nat) => zz ≤ (osl p.A).length) (fun (zz : Nat) => (osl p.A).length - zz) (0) ?hI15 (Fgt.head (Nat.zero_le 1) (false :: true :: true :: false :: false :: true :: false :: false :: false :: false :: false :: false :: false :: false :: false :: false :: false :: false :: false :: false :: false :: false :: false :: false :: false :: false :: false :: false :: false :: false :: false :: false :: false :: false :: false :: false :: false :: false :: false :: false :: false :: false :: false :: true :: true :: true :: []) ?hT15 ?hH15) ?hB15
      case hT15 => first | (simp (disch := omega) only [hds, liveT, cleanAV, cleanCell, clean1, cleanBlk, reduceIte, Int.reduceSub, Int.reduceAdd, Int.reduceNeg]; done) | rfl
      case hH15 => first | (simp (disch := omega) only [hds, liveT, cleanAV, cleanCell, clean1, cleanBlk, reduceIte, Int.reduceSub, Int.reduceAdd, Int.reduceNeg]; done) | rfl
      · exact Nat.zero_le _
      rintro j hj
      by_cases hjm : j = (osl p.A).length
      case neg =>
        have hlt : j < (osl p.A).length := by omega
        repeat (first | (with_reducible first | refine Way.imp ?_ | refine blk_o rfl ?_) | ((with_reducible refine WayR.imp (fun K hK => ?_)); simp (disch := first | omega | (simp only [dls]; omega)) only [std, reduceIte, reduceCtorEq, Int.reduceToNat, Nat.reduceAdd, Nat.reduceSub, Nat.reduceMul, Int.reduceAdd, Int.reduceSub, Int.reduceMul, Int.reduceNeg, fU, fM]; subst hK))
        refine ⟨(j + 1), ?hI16, ?hM16, Fgt.head (Nat.zero_le 1) (false :: true :: true :: false :: false :: true :: false :: false :: false :: false :: false :: false :: false :: false :: false :: false :: false :: false :: false :: false :: false :: false :: false :: false :: false :: false :: false :: false :: false :: false :: false :: false :: false :: false :: false :: false :: false :: false :: false :: false :: false :: false :: false :: true :: true :: true :: []) ?hT16 ?hH16⟩
        case hT16 => first | (simp (disch := omega) only [hds, liveT, cleanAV, cleanCell, clean1, cleanBlk, reduceIte, Int.reduceSub, Int.reduceAdd, Int.reduceNeg]; done) | rfl
        case hH16 => first | (simp (disch := omega) only [hds, liveT, cleanAV, cleanCell, clean1, cleanBlk, reduceIte, Int.reduceSub, Int.reduceAdd, Int.reduceNeg]; done) | rfl
        · omega
        · omega
      repeat (first | (with_reducible first | refine Way.imp ?_ | refine blk_o rfl ?_) | ((with_reducible refine WayR.imp (fun K hK => ?_)); simp (disch := first | omega | (simp only [dls]; omega)) only [std, reduceIte, reduceCtorEq, Int.reduceToNat, Nat.reduceAdd, Nat.reduceSub, Nat.reduceMul, Int.reduceAdd, Int.reduceSub, Int.reduceMul, Int.reduceNeg, fU, beq_self_eq_true]; subst hK) | refine zcA (hdo) rfl rfl rfl ?_ | (apply call_any_g (hsr) rfl; (case hg => simp (disch := first | omega | (simp only [dls]; omega)) only [std, reduceIte, reduceCtorEq, Int.reduceToNat, Nat.reduceAdd, Nat.reduceSub, Nat.reduceMul, Int.reduceAdd, Int.reduceSub, Int.reduceMul, Int.reduceNeg, fU, beq_self_eq_true]); (case hcl => (simp only [evs, St.ev, constAV, evl]; (repeat (first | exact closeAVs_nil | (apply closeAVs_cons; (first | (refine close_own3 rfl (by decide)) | (refine close_ownO rfl (by decide) ?_; assumption) | rfl)))); done)); (case hu => rfl)) | (apply call_any_g (hr) rfl; (case hg => simp (disch := first | omega | (simp only [dls]; omega)) only [std, reduceIte, reduceCtorEq, Int.reduceToNat, Nat.reduceAdd, Nat.reduceSub, Nat.reduceMul, Int.reduceAdd, Int.reduceSub, Int.reduceMul, Int.reduceNeg, fU, beq_self_eq_true]); (case hcl => (simp only [evs, St.ev, constAV, evl]; (repeat (first | exact closeAVs_nil | (apply closeAVs_cons; (first | (refine close_own3 rfl (by decide)) | (refine close_ownO rfl (by decide) ?_; assumption) | rfl)))); done)); (case hu => rfl)) | (apply call_any_g (haw) rfl; (case hg => simp (disch := first | omega | (simp only [dls]; omega)) only [std, reduceIte, reduceCtorEq, Int.reduceToNat, Nat.reduceAdd, Nat.reduceSub, Nat.reduceMul, Int.reduceAdd, Int.reduceSub, Int.reduceMul, Int.reduceNeg, fU, beq_self_eq_true]); (case hcl => (simp only [evs, St.ev, constAV, evl]; (repeat (first | exact closeAVs_nil | (apply closeAVs_cons; (first | (refine close_own3 rfl (by decide)) | (refine close_ownO rfl (by decide) ?_; assumption) | rfl)))); done)); (case hu => rfl)))
      exact ⟨_, rfl, rfl⟩
  exact main _ rfl hr hsr

end Go.Proofs.Ytdhkdnmefeeclaa
