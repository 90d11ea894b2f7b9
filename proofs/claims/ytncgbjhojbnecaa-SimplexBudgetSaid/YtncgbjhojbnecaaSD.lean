/- Walks of offcutlaw12: SimplexBudget. -/
import Derived.Test.YtncgbjhojbnecaaSC
set_option linter.unusedSimpArgs false
set_option linter.unusedVariables false
set_option linter.unnecessarySimpa false
set_option linter.unusedSimpArgs false
set_option linter.unusedVariables false
set_option maxRecDepth 100000
set_option maxHeartbeats 4000000
namespace Go.Proofs.Ytncgbjhojbnecaa
open Go Go.Am Go.Proofs Go.RowKit Go.Off
open Nat renaming reduceAdd -> nA, reduceSub -> nS, reduceMul -> nM, reduceBEq -> nB
open Int renaming reduceToNat -> iT, reduceAdd -> iA, reduceSub -> iS, reduceMul -> iM, reduceNeg -> iN
theorem prov_lens {P : PF} {r : SR} (h : Prov P r) : r.X.length <= P.n /\ r.Y.length <= P.m /\ r.Ray.length <= P.n := by
 rcases h with ⟨_, ⟨x1, _⟩, y1, _, _, z⟩ | ⟨_, x, z, y1, _⟩ | ⟨_, y, ⟨x1, _⟩, z1, _⟩
 ·rw [z]; exact ⟨by omega, by omega, Nat.zero_le _⟩
 ·rw [x, z]; exact ⟨Nat.zero_le _, by omega, Nat.zero_le _⟩
 ·rw [y]; exact ⟨by omega, Nat.zero_le _, by omega⟩
theorem k_few {m : Nat} (h : m <= 4) : 4 ^ m * (3 + 1) <= 1024 /\ 1 <= 4 ^ m * (3 + 1) := by
 have : ∀ m, m <= 4 -> 4 ^ m * (3 + 1) <= 1024 /\ 1 <= 4 ^ m * (3 + 1) := by decide
 exact this m h
theorem fall_V {l : List Rat} {K n : Nat} (h : FAll l K) (hn : l.length <= n) (hK : K <= 1024) : FitsV (rowV l) n 1024 := fits_rowV hn (fun q hq => (h q hq).mono hK)
theorem same_self (l : List Rat) (h : l.length <= 100) (hf : FitsV (rowV l) 100 1024) : PureC Try.prog 14 [aV (rowV l), aV (rowV l)] (.ret (aB true)) := by
 have := vsame_C _ _ 100 1024 hf hf (by decide) (by decide)
 rw [same_of rfl (fun k _ => rfl)] at this
 exact this
abbrev c3 : CC := (.seq (.reg [⟨some 2,none,.box 25 (.tmp 0)⟩,⟨some 4,none,.mv (.const (.bool false))⟩]) (.seq (.seq (.reg [⟨some 13,none,.load 3 true (.tmp 2)⟩,⟨some 14,none,.callf (.func 10) [(.tmp 13)]⟩,⟨some 15,none,.un .not (.tmp 14)⟩,⟨some 16,none,.mv (.tmp 15)⟩,⟨some 17,(some (16,false)),.load 3 true (.tmp 2)⟩,⟨some 18,(some (16,false)),.callf (.func 11) [(.tmp 17)]⟩,⟨some 19,(some (16,false)),.un .not (.tmp 18)⟩,⟨some 20,none,.pick (.tmp 16) (.const (.bool true)) (.tmp 19)⟩]) (.cond (.tmp 20) (.seq (.reg [⟨some 21,none,.callf (.func 12) []⟩,⟨some 4,none,.mv (.tmp 21)⟩]) .ret) .skip)) (.seq (.reg [⟨some 23,none,.load 3 true (.tmp 2)⟩,⟨some 24,none,.callf (.func 13) [(.tmp 23),(.const (.int .i64 (65536)))]⟩,⟨some 22,none,.mv (.tmp 24)⟩,⟨some 25,none,.ext (.tmp 22) 0⟩,⟨some 26,none,.ext (.tmp 22) 1⟩,⟨some 5,none,.new 30 [(.int .i64 (0)),(.slice none 0 0),(.slice none 0 0),(.slice none 0 0),(.slice none 0 0),(.int .i64 (0))]⟩,⟨none,none,.store 6 (.tmp 5) (.tmp 25)⟩,⟨some 6,none,.mv (.tmp 26)⟩]) (.seq (.reg [⟨some 28,none,.load 3 true (.tmp 2)⟩,⟨some 29,none,.faddr 5 (.tmp 5)⟩,⟨some 30,none,.load 1 false (.tmp 29)⟩,⟨some 31,none,.callf (.func 13) [(.tmp 28),(.tmp 30)]⟩,⟨some 27,none,.mv (.tmp 31)⟩,⟨some 32,none,.ext (.tmp 27) 0⟩,⟨some 33,none,.ext (.tmp 27) 1⟩,⟨some 7,none,.new 30 [(.int .i64 (0)),(.slice none 0 0),(.slice none 0 0),(.slice none 0 0),(.slice none 0 0),(.int .i64 (0))]⟩,⟨none,none,.store 6 (.tmp 7) (.tmp 32)⟩,⟨some 8,none,.mv (.tmp 33)⟩]) (.seq (.seq (.reg [⟨some 34,none,.mv (.tmp 6)⟩,⟨some 35,none,.bin .neq (.tmp 34) (.const (.int .i64 (0)))⟩,⟨some 36,none,.mv (.tmp 35)⟩,⟨some 37,(some (36,false)),.mv (.tmp 8)⟩,⟨some 38,(some (36,false)),.bin .neq (.tmp 37) (.const (.int .i64 (0)))⟩,⟨some 39,none,.pick (.tmp 36) (.const (.bool true)) (.tmp 38)⟩,⟨some 40,none,.mv (.tmp 39)⟩,⟨some 41,(some (40,false)),.faddr 0 (.tmp 7)⟩,⟨some 42,(some (40,false)),.load 1 false (.tmp 41)⟩,⟨some 43,(some (40,false)),.faddr 0 (.tmp 5)⟩,⟨some 44,(some (40,false)),.load 1 false (.tmp 43)⟩,⟨some 45,(some (40,false)),.bin .neq (.tmp 42) (.tmp 44)⟩,⟨some 46,none,.pick (.tmp 40) (.const (.bool true)) (.tmp 45)⟩,⟨some 47,none,.mv (.tmp 46)⟩,⟨some 48,(some (47,false)),.faddr 5 (.tmp 7)⟩,⟨some 49,(some (47,false)),.load 1 false (.tmp 48)⟩,⟨some 50,(some (47,false)),.faddr 5 (.tmp 5)⟩,⟨some 51,(some (47,false)),.load 1 false (.tmp 50)⟩,⟨some 52,(some (47,false)),.bin .neq (.tmp 49) (.tmp 51)⟩,⟨some 53,none,.pick (.tmp 47) (.const (.bool true)) (.tmp 52)⟩,⟨some 54,none,.mv (.tmp 53)⟩,⟨some 55,(some (54,false)),.faddr 1 (.tmp 7)⟩,⟨some 56,(some (54,false)),.load 1 false (.tmp 55)⟩,⟨some 57,(some (54,false)),.faddr 1 (.tmp 5)⟩,⟨some 58,(some (54,false)),.load 1 false (.tmp 57)⟩,⟨some 59,(some (54,false)),.callf (.func 14) [(.tmp 56),(.tmp 58)]⟩,⟨some 60,(some (54,false)),.un .not (.tmp 59)⟩,⟨some 61,none,.pick (.tmp 54) (.const (.bool true)) (.tmp 60)⟩,⟨some 62,none,.mv (.tmp 61)⟩,⟨some 63,(some (62,false)),.faddr 2 (.tmp 7)⟩,⟨some 64,(some (62,false)),.load 1 false (.tmp 63)⟩,⟨some 65,(some (62,false)),.faddr 2 (.tmp 5)⟩,⟨some 66,(some (62,false)),.load 1 false (.tmp 65)⟩,⟨some 67,(some (62,false)),.callf (.func 14) [(.tmp 64),(.tmp 66)]⟩,⟨some 68,(some (62,false)),.un .not (.tmp 67)⟩,⟨some 69,none,.pick (.tmp 62) (.const (.bool true)) (.tmp 68)⟩,⟨some 70,none,.mv (.tmp 69)⟩,⟨some 71,(some (70,false)),.faddr 3 (.tmp 7)⟩,⟨some 72,(some (70,false)),.load 1 false (.tmp 71)⟩,⟨some 73,(some (70,false)),.faddr 3 (.tmp 5)⟩,⟨some 74,(some (70,false)),.load 1 false (.tmp 73)⟩,⟨some 75,(some (70,false)),.callf (.func 14) [(.tmp 72),(.tmp 74)]⟩,⟨some 76,(some (70,false)),.un .not (.tmp 75)⟩,⟨some 77,none,.pick (.tmp 70) (.const (.bool true)) (.tmp 76)⟩]) (.cond (.tmp 77) (.seq (.reg [⟨some 4,none,.mv (.const (.bool false))⟩]) .ret) .skip)) (.seq (.reg [⟨some 79,none,.load 3 true (.tmp 2)⟩,⟨some 80,none,.callf (.func 13) [(.tmp 79),(.const (.int .i64 (-1)))]⟩,⟨some 78,none,.mv (.tmp 80)⟩,⟨some 81,none,.ext (.tmp 78) 0⟩,⟨some 82,none,.ext (.tmp 78) 1⟩,⟨some 9,none,.new 30 [(.int .i64 (0)),(.slice none 0 0),(.slice none 0 0),(.slice none 0 0),(.slice none 0 0),(.int .i64 (0))]⟩,⟨none,none,.store 6 (.tmp 9) (.tmp 81)⟩,⟨some 10,none,.mv (.tmp 82)⟩]) (.seq (.seq (.reg [⟨some 83,none,.faddr 5 (.tmp 5)⟩,⟨some 84,none,.load 1 false (.tmp 83)⟩,⟨some 85,none,.bin .eql (.tmp 84) (.const (.int .i64 (0)))⟩]) (.cond (.tmp 85) (.seq (.reg [⟨some 86,none,.mv (.tmp 10)⟩,⟨some 87,none,.bin .eql (.tmp 86) (.const (.int .i64 (1)))⟩,⟨some 88,none,.mv (.tmp 87)⟩,⟨some 89,(some (88,true)),.callf (.func 12) []⟩,⟨some 90,none,.pick (.tmp 88) (.tmp 89) (.const (.bool false))⟩,⟨some 4,none,.mv (.tmp 90)⟩]) .ret) .skip)) (.seq (.regn true [⟨some 92,none,.load 3 true (.tmp 2)⟩,⟨some 93,none,.faddr 5 (.tmp 5)⟩,⟨some 94,none,.load 1 false (.tmp 93)⟩,⟨some 95,none,.bin .sub (.tmp 94) (.const (.int .i64 (1)))⟩,⟨some 96,none,.mv (.tmp 1)⟩,⟨some 97,none,.conv .i64 (.tmp 96)⟩,⟨some 98,none,.faddr 5 (.tmp 5)⟩,⟨some 99,none,.load 1 false (.tmp 98)⟩,⟨some 100,none,.bin .rem (.tmp 97) (.tmp 99)⟩,⟨some 101,none,.bin .sub (.tmp 95) (.tmp 100)⟩,⟨some 102,none,.callf (.func 13) [(.tmp 92),(.tmp 101)]⟩,⟨some 91,none,.mv (.tmp 102)⟩,⟨some 103,none,.ext (.tmp 91) 0⟩,⟨some 104,none,.ext (.tmp 91) 1⟩,⟨some 11,none,.fill 30 [(.int .i64 (0)),(.slice none 0 0),(.slice none 0 0),(.slice none 0 0),(.slice none 0 0),(.int .i64 (0))]⟩,⟨none,none,.store 6 (.tmp 11) (.tmp 103)⟩,⟨some 12,none,.mv (.tmp 104)⟩]) (.seq (.reg [⟨some 105,none,.mv (.tmp 12)⟩,⟨some 106,none,.bin .eql (.tmp 105) (.const (.int .i64 (10)))⟩,⟨some 107,none,.mv (.tmp 106)⟩,⟨some 108,(some (107,true)),.faddr 0 (.tmp 11)⟩,⟨some 109,(some (107,true)),.load 1 false (.tmp 108)⟩,⟨some 110,(some (107,true)),.bin .eql (.tmp 109) (.const (.int .i64 (0)))⟩,⟨some 111,none,.pick (.tmp 107) (.tmp 110) (.const (.bool false))⟩,⟨some 112,none,.mv (.tmp 111)⟩,⟨some 113,(some (112,true)),.mv (.tmp 10)⟩,⟨some 114,(some (112,true)),.bin .eql (.tmp 113) (.const (.int .i64 (1)))⟩,⟨some 115,none,.pick (.tmp 112) (.tmp 114) (.const (.bool false))⟩,⟨some 116,none,.mv (.tmp 115)⟩,⟨some 117,(some (116,true)),.callf (.func 12) []⟩,⟨some 118,none,.pick (.tmp 116) (.tmp 117) (.const (.bool false))⟩,⟨some 4,none,.mv (.tmp 118)⟩]) .ret)))))))))
theorem cc3 : ccode Try.prog [] (Try.f3.body.getD .skip) = some c3 := by kernel_rfl
theorem body3 : Try.f3.body = some (Try.f3.body.getD .skip) := rfl
theorem simplexBudget_C (p : PB) (less : Nat) (hl : less < 256) : PureC Try.prog 3 [aP p, .one (.c (.val (.int .u8 (less : Int))))] (.ret (aB true)) := by
 have hw := awake12_C
 have hf := fewP_C p
 cases c1 : fewP p with
 | false =>
  rw [c1] at hf
  refine pureC_of (rs := [(RV.tmp 4)]) Try.func3 (fun a w => Try.call3 a w) body3 cc3 (by kernel_rfl) ?_
  rw [Try.ntmps3]
  simp only [frs, nA, nS]
  repeat (first | (with_reducible first | refine Way.imp ?_ | refine blk_o rfl ?_) | ((with_reducible refine WayR.imp (fun K hK => ?_)); simp (disch := first | omega | (simp only [dls]; omega)) only [std, reduceIte, reduceCtorEq, iT, nA, nS, nM, iA, iS, iM, iN, fU]; subst hK) | refine zcA (hf) rfl rfl rfl ?_ | refine zcA (hw) rfl rfl rfl ?_)
  exact ⟨_, rfl, rfl⟩
 | true =>
  rw [c1] at hf
  have hr := sright_C p
  cases c2 : rightB p with
  | false =>
   rw [c2] at hr
   refine pureC_of (rs := [(RV.tmp 4)]) Try.func3 (fun a w => Try.call3 a w) body3 cc3 (by kernel_rfl) ?_
   rw [Try.ntmps3]
   simp only [frs, nA, nS]
   repeat (first | (with_reducible first | refine Way.imp ?_ | refine blk_o rfl ?_) | ((with_reducible refine WayR.imp (fun K hK => ?_)); simp (disch := first | omega | (simp only [dls]; omega)) only [std, reduceIte, reduceCtorEq, iT, nA, nS, nM, iA, iS, iM, iN, fU]; subst hK) | refine zcA (hf) rfl rfl rfl ?_ | (apply call_any_g (hr) rfl; (case hg => simp (disch := first | omega | (simp only [dls]; omega)) only [std, reduceIte, reduceCtorEq, iT, nA, nS, nM, iA, iS, iM, iN, fU]); (case hcl => (simp only [evs, St.ev, constAV, evl]; (repeat (first | exact closeAVs_nil | (apply closeAVs_cons; (first | (refine close_own3 rfl (by decide)) | (refine close_ownO rfl (by decide) ?_; assumption) | rfl)))); done)); (case hu => rfl)) | refine zcA (hw) rfl rfl rfl ?_)
   exact ⟨_, rfl, rfl⟩
  | true =>
   rw [c2] at hr
   obtain ⟨⟨f1, f2, f3⟩, f4⟩ := fewP_fits c1
   have hC8 : (osl p.C).length <= 8 := f3.1
   obtain ⟨r, T, ht⟩ := told p 3 (pfits_few c1 c2)
   have hT := steps_few f4 hC8 ht.steps
   obtain ⟨k1, k2⟩ := k_few f4
   obtain ⟨x1, x2, x3⟩ := prov_lens ht.prov
   have hn8 : (pfOf p).n <= 8 := hC8
   have hm4 : (pfOf p).m <= 4 := f4
   have s1 := same_self r.X (by omega) (fall_V ht.fx (by omega) k1)
   have s2 := same_self r.Y (by omega) (fall_V ht.fy (by omega) k1)
   have s3 := same_self r.Ray (by omega) (fall_V ht.fr (by omega) k1)
   have h1 := ht.call 65536 (by decide) (by decide)
   rw [if_pos (by omega)] at h1
   have h2 := ht.call T (by omega) (by omega)
   rw [if_pos (by omega)] at h2
   have h3 := solve_neg p (-1) (by decide)
   have hfew := fun bu : Int => ht.call bu
   clear ht
   unfold srV srC at h1 h2 hfew
   generalize (r.v : Int) = rv at *
   generalize encSl 1 fI (rowO (intsN r.bs)) = cb at *
   by_cases hT0 : T = 0
   ·subst hT0
    refine pureC_of (rs := [(RV.tmp 4)]) Try.func3 (fun a w => Try.call3 a w) body3 cc3 (by kernel_rfl) ?_
    rw [Try.ntmps3]
    simp only [frs, nA, nS]
    repeat (first | (with_reducible first | refine Way.imp ?_ | refine blk_o rfl ?_) | ((with_reducible refine WayR.imp (fun K hK => ?_)); simp (disch := first | omega | (simp only [dls]; omega)) only [std, reduceIte, reduceCtorEq, iT, nA, nS, nM, iA, iS, iM, iN, fU]; subst hK) | refine zcA (hf) rfl rfl rfl ?_ | (apply call_any_g (hr) rfl; (case hg => simp (disch := first | omega | (simp only [dls]; omega)) only [std, reduceIte, reduceCtorEq, iT, nA, nS, nM, iA, iS, iM, iN, fU]); (case hcl => (simp only [evs, St.ev, constAV, evl]; (repeat (first | exact closeAVs_nil | (apply closeAVs_cons; (first | (refine close_own3 rfl (by decide)) | (refine close_ownO rfl (by decide) ?_; assumption) | rfl)))); done)); (case hu => rfl)) | refine zcA (hw) rfl rfl rfl ?_ | refine zcA (h1) rfl rfl rfl ?_ | refine zcA (h2) rfl rfl rfl ?_ | (apply call_any_g (s1) rfl; (case hg => simp (disch := first | omega | (simp only [dls]; omega)) only [std, reduceIte, reduceCtorEq, iT, nA, nS, nM, iA, iS, iM, iN, fU]); (case hcl => (simp only [evs, St.ev, constAV, evl]; (repeat (first | exact closeAVs_nil | (apply closeAVs_cons; (first | (refine close_own3 rfl (by decide)) | (refine close_ownO rfl (by decide) ?_; assumption) | rfl)))); done)); (case hu => rfl)) | (apply call_any_g (s2) rfl; (case hg => simp (disch := first | omega | (simp only [dls]; omega)) only [std, reduceIte, reduceCtorEq, iT, nA, nS, nM, iA, iS, iM, iN, fU]); (case hcl => (simp only [evs, St.ev, constAV, evl]; (repeat (first | exact closeAVs_nil | (apply closeAVs_cons; (first | (refine close_own3 rfl (by decide)) | (refine close_ownO rfl (by decide) ?_; assumption) | rfl)))); done)); (case hu => rfl)) | (apply call_any_g (s3) rfl; (case hg => simp (disch := first | omega | (simp only [dls]; omega)) only [std, reduceIte, reduceCtorEq, iT, nA, nS, nM, iA, iS, iM, iN, fU]); (case hcl => (simp only [evs, St.ev, constAV, evl]; (repeat (first | exact closeAVs_nil | (apply closeAVs_cons; (first | (refine close_own3 rfl (by decide)) | (refine close_ownO rfl (by decide) ?_; assumption) | rfl)))); done)); (case hu => rfl)) | refine zcA (h3) rfl rfl rfl ?_ | (apply call_any_g (hw) rfl; (case hg => simp (disch := first | omega | (simp only [dls]; omega)) only [std, reduceIte, reduceCtorEq, iT, nA, nS, nM, iA, iS, iM, iN, fU]); (case hcl => (simp only [evs, St.ev, constAV, evl]; (repeat (first | exact closeAVs_nil | (apply closeAVs_cons; (first | (refine close_own3 rfl (by decide)) | (refine close_ownO rfl (by decide) ?_; assumption) | rfl)))); done)); (case hu => rfl)))
    exact ⟨_, rfl, rfl⟩
   ·have hmd : (less : Int).tmod (T : Int) = ((less % T : Nat) : Int) := by rw [Int.tmod_eq_emod_of_nonneg (by omega)]; rfl
    have hlt : less % T < T := Nat.mod_lt _ (by omega)
    generalize less % T = g at hmd hlt
    have h4 := hfew ((T : Int) - 1 - (g : Int)) (by omega) (by omega)
    rw [if_neg (by omega)] at h4
    refine pureC_of (rs := [(RV.tmp 4)]) Try.func3 (fun a w => Try.call3 a w) body3 cc3 (by kernel_rfl) ?_
    rw [Try.ntmps3]
    simp only [frs, nA, nS]
    repeat (first | (with_reducible first | refine Way.imp ?_ | refine blk_o rfl ?_) | ((with_reducible refine WayR.imp (fun K hK => ?_)); simp (disch := first | omega | (simp only [dls]; omega)) only [std, reduceIte, reduceCtorEq, iT, nA, nS, nM, iA, iS, iM, iN, fU, hmd]; subst hK) | refine zcA (hf) rfl rfl rfl ?_ | (apply call_any_g (hr) rfl; (case hg => simp (disch := first | omega | (simp only [dls]; omega)) only [std, reduceIte, reduceCtorEq, iT, nA, nS, nM, iA, iS, iM, iN, fU, hmd]); (case hcl => (simp only [evs, St.ev, constAV, evl]; (repeat (first | exact closeAVs_nil | (apply closeAVs_cons; (first | (refine close_own3 rfl (by decide)) | (refine close_ownO rfl (by decide) ?_; assumption) | rfl)))); done)); (case hu => rfl)) | refine zcA (hw) rfl rfl rfl ?_ | refine zcA (h1) rfl rfl rfl ?_ | refine zcA (h2) rfl rfl rfl ?_ | (apply call_any_g (s1) rfl; (case hg => simp (disch := first | omega | (simp only [dls]; omega)) only [std, reduceIte, reduceCtorEq, iT, nA, nS, nM, iA, iS, iM, iN, fU, hmd]); (case hcl => (simp only [evs, St.ev, constAV, evl]; (repeat (first | exact closeAVs_nil | (apply closeAVs_cons; (first | (refine close_own3 rfl (by decide)) | (refine close_ownO rfl (by decide) ?_; assumption) | rfl)))); done)); (case hu => rfl)) | (apply call_any_g (s2) rfl; (case hg => simp (disch := first | omega | (simp only [dls]; omega)) only [std, reduceIte, reduceCtorEq, iT, nA, nS, nM, iA, iS, iM, iN, fU, hmd]); (case hcl => (simp only [evs, St.ev, constAV, evl]; (repeat (first | exact closeAVs_nil | (apply closeAVs_cons; (first | (refine close_own3 rfl (by decide)) | (refine close_ownO rfl (by decide) ?_; assumption) | rfl)))); done)); (case hu => rfl)) | (apply call_any_g (s3) rfl; (case hg => simp (disch := first | omega | (simp only [dls]; omega)) only [std, reduceIte, reduceCtorEq, iT, nA, nS, nM, iA, iS, iM, iN, fU, hmd]); (case hcl => (simp only [evs, St.ev, constAV, evl]; (repeat (first | exact closeAVs_nil | (apply closeAVs_cons; (first | (refine close_own3 rfl (by decide)) | (refine close_ownO rfl (by decide) ?_; assumption) | rfl)))); done)); (case hu => rfl)) | refine zcA (h3) rfl rfl rfl ?_ | (apply call_any_g (hw) rfl; (case hg => simp (disch := first | omega | (simp only [dls]; omega)) only [std, reduceIte, reduceCtorEq, iT, nA, nS, nM, iA, iS, iM, iN, fU, hmd]); (case hcl => (simp only [evs, St.ev, constAV, evl]; (repeat (first | exact closeAVs_nil | (apply closeAVs_cons; (first | (refine close_own3 rfl (by decide)) | (refine close_ownO rfl (by decide) ?_; assumption) | rfl)))); done)); (case hu => rfl)) | refine zcA (h4) rfl rfl rfl ?_)
    exact ⟨_, rfl, rfl⟩
theorem simplexBudget_E (p : PB) (z : Int) (h : 0 <= z /\ z <= 255) : PureC Try.prog 3 [aP p, .one (.c (.val (.int .u8 z)))] (.ret (aB true)) := by
 have := simplexBudget_C p z.toNat (by omega)
 rw [Int.toNat_of_nonneg h.1] at this
 exact this
end Go.Proofs.Ytncgbjhojbnecaa
