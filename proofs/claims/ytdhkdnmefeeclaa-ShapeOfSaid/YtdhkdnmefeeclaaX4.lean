/- Walks of offcutlaw11: awake. -/
import Derived.Test.YtdhkdnmefeeclaaX3
set_option linter.unusedSimpArgs false
set_option linter.unusedVariables false
set_option linter.unnecessarySimpa false
set_option linter.unusedSimpArgs false
set_option linter.unusedVariables false
set_option maxRecDepth 100000
set_option maxHeartbeats 4000000
namespace Go.Proofs.Ytdhkdnmefeeclaa
open Go Go.Am Go.Proofs Go.RowKit Go.Off

theorem constAV_b (a : Array UInt8) : constAV (Value.string ⟨a⟩) = .one (.c (.str a.toList)) := by cases a; rfl
def awM : MD := ⟨some [[120]], some [rawQ 1], some [⟨[114], some [rawQ 1], 1, rawQ 2⟩]⟩
theorem awM_right : rightMd awM = true := by decide +kernel
def awP : PB := ⟨some [some [rawQ 1, rawQ (-1)]], some [rawQ 2], some [rawQ 1, rawQ 0]⟩
theorem awM_of : ofP awM = awP := by
  have h1 : ofA awM 1 = [[1, -1]] := by
    show [[(rawQ 1).val, ((0 - 1 : Int) : Rat)]] = _
    rw [rawQ_val]; rfl
  have h2 : ofB awM 1 = [2] := by
    show [(rawQ 2).val] = _
    rw [rawQ_val]
  have h3 : wideQ awM.cost (ofN awM) = [1, 0] := by
    show [(rawQ 1).val, 0] = _
    rw [rawQ_val]
  unfold ofP
  show PB.mk (rowO ((ofA awM 1).map rowV)) (rowV (ofB awM 1)) (rowV (wideQ awM.cost (ofN awM))) = _
  rw [h1, h2, h3]
  rfl
theorem awP_right : rightB awP = true := by decide +kernel
theorem awP_does : doesB awP (some [rawQ 3, rawQ 1]) = true := by
  have h1 : dotV (mAt awP.A 0) (some [rawQ 3, rawQ 1]) = qAt awP.B 0 := by
    show dotTo (some [rawQ 1, rawQ (-1)]) (some [rawQ 3, rawQ 1]) 2 = (rawQ 2).val
    simp only [dotTo, List.range_succ, List.range_zero, List.nil_append, List.cons_append, List.foldl_cons, List.foldl_nil, rAt, osl_some, List.getD_cons_zero, List.getD_cons_succ, rawQ_val]
    grind
  have h2 : anyI (pAt belowB (some [rawQ 3, rawQ 1])) 2 = false := by
    refine anyI_of (fun i hi => ?_)
    have : i = 0 ∨ i = 1 := by omega
    rcases this with rfl | rfl
    · show belowB (rawQ 3) = false
      unfold belowB; rw [rawQ_val]; decide
    · show belowB (rawQ 1) = false
      unfold belowB; rw [rawQ_val]; decide
  unfold doesB
  rw [awP_right]
  show (true && (true && (!anyI (pAt belowB (some [rawQ 3, rawQ 1])) 2 && doesTo awP (some [rawQ 3, rawQ 1]) 1))) = true
  rw [h2, doesTo_succ, h1]
  simp [doesTo]
theorem fitsV_i2 (a b : Int) (h1 : -9223372036854775808 ≤ a) (h2 : a ≤ 9223372036854775807) (h3 : -9223372036854775808 ≤ b) (h4 : b ≤ 9223372036854775807) : FitsV (some [rawQ (a : Rat), rawQ (b : Rat)]) 2 2 := by
  refine ⟨Nat.le_refl _, fun r hr => ?_⟩
  rw [osl_some] at hr
  rcases List.mem_cons.1 hr with rfl | hr
  · exact fits_rawQ (fits_int a h1 h2)
  · rw [List.mem_singleton.1 hr]; exact fits_rawQ (fits_int b h3 h4)
theorem litL2 (x y : Int) : [[Cell.c (.val (.int .i64 x))], [Cell.c (.val (.int .i64 y))]] = encB fI [x, y] := rfl
theorem fitsV_one (a : Rat) (L : Nat) (h : FitsQ a L) : FitsV (some [rawQ a]) 2 L := ⟨Nat.le_succ _, fun r hr => by rw [osl_some] at hr; rw [List.mem_singleton.1 hr]; exact fits_rawQ h⟩
theorem litK1 (x : Int) : [[Cell.c (.val (.int .i64 x))]] = encB fI [x] := rfl

abbrev c67 : CC := (.seq (.reg [⟨(some 0), none, (.mv (.const (.bool false)))⟩]) (.seq (.reg [⟨(some 4), none, (.mkrow 9 1 [(.const (.string ⟨#[120]⟩))])⟩, ⟨(some 5), none, (.mkrow 3 1 [(.const (.int .i64 (1)))])⟩, ⟨(some 6), none, (.callf (.func 57) [(.tmp 5)])⟩, ⟨(some 7), none, (.mkrow 3 1 [(.const (.int .i64 (1)))])⟩, ⟨(some 8), none, (.callf (.func 57) [(.tmp 7)])⟩, ⟨(some 9), none, (.callf (.func 59) [(.const (.int .i64 (2)))])⟩, ⟨(some 10), none, (.build [(.string ⟨#[]⟩), (.slice none 0 0), (.int .i64 (0)), (.bool false), (.slice none 0 0), (.slice none 0 0)] [(0, (1, (.const (.string ⟨#[114]⟩)))), (1, (1, (.tmp 8))), (2, (1, (.const (.int .i64 (1))))), (3, (3, (.tmp 9)))])⟩, ⟨(some 11), none, (.mkrow 96 6 [(.tmp 10)])⟩, ⟨(some 12), none, (.build [(.slice none 0 0), (.slice none 0 0), (.slice none 0 0)] [(0, (1, (.tmp 4))), (1, (1, (.tmp 6))), (2, (1, (.tmp 11)))])⟩, ⟨(some 1), none, (.new 91 [(.slice none 0 0), (.slice none 0 0), (.slice none 0 0)])⟩, ⟨none, none, (.store 3 (.tmp 1) (.tmp 12))⟩]) (.seq (.reg [⟨(some 14), none, (.load 3 true (.tmp 1))⟩, ⟨(some 15), none, (.callf (.func 72) [(.tmp 14)])⟩, ⟨(some 13), none, (.mv (.tmp 15))⟩, ⟨(some 16), none, (.ext (.tmp 13) 0)⟩, ⟨(some 17), none, (.ext (.tmp 13) 1)⟩, ⟨(some 2), none, (.new 86 [(.slice none 0 0), (.slice none 0 0), (.slice none 0 0)])⟩, ⟨none, none, (.store 3 (.tmp 2) (.tmp 16))⟩, ⟨(some 3), none, (.mv (.tmp 17))⟩]) (.seq (.reg [⟨(some 18), none, (.mv (.tmp 3))⟩, ⟨(some 19), none, (.bin .eql (.tmp 18) (.const (.int .i64 (0))))⟩, ⟨(some 20), none, (.mv (.tmp 19))⟩, ⟨(some 21), (some (20, true)), (.faddr 0 (.tmp 2))⟩, ⟨(some 22), (some (20, true)), (.load 1 false (.tmp 21))⟩, ⟨(some 23), (some (20, true)), (.len false (.tmp 22))⟩, ⟨(some 24), (some (20, true)), (.bin .eql (.tmp 23) (.const (.int .i64 (1))))⟩, ⟨(some 25), none, (.pick (.tmp 20) (.tmp 24) (.const (.bool false)))⟩, ⟨(some 26), none, (.mv (.tmp 25))⟩, ⟨(some 27), (some (26, true)), (.faddr 0 (.tmp 2))⟩, ⟨(some 28), (some (26, true)), (.load 1 false (.tmp 27))⟩, ⟨(some 29), (some (26, true)), (.iaddr 1 none (.tmp 28) (.const (.int .i64 (0))))⟩, ⟨(some 30), (some (26, true)), (.load 1 false (.tmp 29))⟩, ⟨(some 31), (some (26, true)), (.mkrow 3 1 [(.const (.int .i64 (1))), (.const (.int .i64 (-1)))])⟩, ⟨(some 32), (some (26, true)), (.callf (.func 57) [(.tmp 31)])⟩, ⟨(some 33), (some (26, true)), (.callf (.func 51) [(.tmp 30), (.tmp 32)])⟩, ⟨(some 34), none, (.pick (.tmp 26) (.tmp 33) (.const (.bool false)))⟩, ⟨(some 35), none, (.mv (.tmp 34))⟩, ⟨(some 36), (some (35, true)), (.faddr 1 (.tmp 2))⟩, ⟨(some 37), (some (35, true)), (.load 1 false (.tmp 36))⟩, ⟨(some 38), (some (35, true)), (.mkrow 3 1 [(.const (.int .i64 (2)))])⟩, ⟨(some 39), (some (35, true)), (.callf (.func 57) [(.tmp 38)])⟩, ⟨(some 40), (some (35, true)), (.callf (.func 51) [(.tmp 37), (.tmp 39)])⟩, ⟨(some 41), none, (.pick (.tmp 35) (.tmp 40) (.const (.bool false)))⟩, ⟨(some 42), none, (.mv (.tmp 41))⟩, ⟨(some 43), (some (42, true)), (.faddr 2 (.tmp 2))⟩, ⟨(some 44), (some (42, true)), (.load 1 false (.tmp 43))⟩, ⟨(some 45), (some (42, true)), (.mkrow 3 1 [(.const (.int .i64 (1))), (.const (.int .i64 (0)))])⟩, ⟨(some 46), (some (42, true)), (.callf (.func 57) [(.tmp 45)])⟩, ⟨(some 47), (some (42, true)), (.callf (.func 51) [(.tmp 44), (.tmp 46)])⟩, ⟨(some 48), none, (.pick (.tmp 42) (.tmp 47) (.const (.bool false)))⟩, ⟨(some 49), none, (.mv (.tmp 48))⟩, ⟨(some 50), (some (49, true)), (.load 3 true (.tmp 2))⟩, ⟨(some 51), (some (49, true)), (.callf (.func 70) [(.tmp 50)])⟩, ⟨(some 52), none, (.pick (.tmp 49) (.tmp 51) (.const (.bool false)))⟩, ⟨(some 53), none, (.mv (.tmp 52))⟩, ⟨(some 54), (some (53, true)), (.load 3 true (.tmp 2))⟩, ⟨(some 55), (some (53, true)), (.mkrow 3 1 [(.const (.int .i64 (3))), (.const (.int .i64 (1)))])⟩, ⟨(some 56), (some (53, true)), (.callf (.func 57) [(.tmp 55)])⟩, ⟨(some 57), (some (53, true)), (.callf (.func 69) [(.tmp 54), (.tmp 56)])⟩, ⟨(some 58), none, (.pick (.tmp 53) (.tmp 57) (.const (.bool false)))⟩, ⟨(some 0), none, (.mv (.tmp 58))⟩]) .ret))))
theorem cc67 : ccode Try.prog [] (Try.f67.body.getD .skip) = some c67 := by kernel_rfl
theorem body67 : Try.f67.body = some (Try.f67.body.getD .skip) := rfl

theorem awake11_C : PureC Try.prog 67 [] (.ret (aB true)) := by
  have i1 := ints_R [1] (by decide) (by decide)
  have i2 := ints_R [1, -1] (by decide) (by decide)
  have i3 := ints_R [2] (by decide) (by decide)
  have i4 := ints_R [1, 0] (by decide) (by decide)
  have i5 := ints_R [3, 1] (by decide) (by decide)
  change PureC _ _ _ (.ret (aV (some [rawQ 1]))) at i1
  change PureC _ _ _ (.ret (aV (some [rawQ 1, rawQ (-1)]))) at i2
  change PureC _ _ _ (.ret (aV (some [rawQ 2]))) at i3
  change PureC _ _ _ (.ret (aV (some [rawQ 1, rawQ 0]))) at i4
  change PureC _ _ _ (.ret (aV (some [rawQ 3, rawQ 1]))) at i5
  have hint := rint_C 2 (by omega) (by omega)
  change PureC _ _ _ (.ret (aR (rawQ 2))) at hint
  have q1 : FitsQ (1 : Rat) 2 := fits_int 1 (by decide) (by decide)
  have q2 : FitsQ (2 : Rat) 2 := fits_int 2 (by decide) (by decide)
  have f1 := fitsV_one 1 2 q1
  have f2 : FitsV (some [rawQ 1, rawQ (-1)]) 2 2 := fitsV_i2 1 (-1) (by decide) (by decide) (by decide) (by decide)
  have f3 := fitsV_one 2 2 q2
  have f4 : FitsV (some [rawQ 1, rawQ 0]) 2 2 := fitsV_i2 1 0 (by decide) (by decide) (by decide) (by decide)
  have f5 : FitsV (some [rawQ 3, rawQ 1]) 2 2 := fitsV_i2 3 1 (by decide) (by decide) (by decide) (by decide)
  have hof := sof_yes awM 2 2 ⟨f1, fun r hr => by
    have : r = ⟨[114], some [rawQ 1], 1, rawQ 2⟩ := by simpa [awM, osl] using hr
    subst this
    exact ⟨f1, fits_rawQ q2⟩⟩ (by decide) (by decide) (by decide) (fun s hs => by
    have : s = [120] := by simpa [awM, osl] using hs
    subst this; decide) (fun r hr => by
    have : r = ⟨[114], some [rawQ 1], 1, rawQ 2⟩ := by simpa [awM, osl] using hr
    subst this; decide) awM_right
  rw [awM_of] at hof
  have s1 := vsame_C _ _ 2 2 f2 f2 (by decide) (by decide)
  rw [same_of rfl (fun k _ => rfl)] at s1
  have s2 := vsame_C _ _ 2 2 f3 f3 (by decide) (by decide)
  rw [same_of rfl (fun k _ => rfl)] at s2
  have s3 := vsame_C _ _ 2 2 f4 f4 (by decide) (by decide)
  rw [same_of rfl (fun k _ => rfl)] at s3
  have hr := sright_C awP
  rw [awP_right] at hr
  have hfP : FitsP awP 2 2 := ⟨⟨by decide, fun v hv => by
    have : v = some [rawQ 1, rawQ (-1)] := by simpa [awP, osl] using hv
    subst this; exact f2⟩, f3, f4⟩
  have hd := does_C awP (some [rawQ 3, rawQ 1]) 2 2 hfP f5 (by decide) (by decide) (by decide)
  rw [awP_does] at hd
  unfold awP at hof hr hd
  unfold awM at hof
  clear f1 f2 f3 f4 f5 q1 q2 hfP
  generalize rawQ (-1) = p1 at *
  generalize rawQ 0 = q0 at *
  generalize rawQ 1 = q1 at *
  generalize rawQ 2 = q2 at *
  generalize rawQ 3 = q3 at *
  refine pureC_of (rs := [(RV.tmp 0)]) Try.func67 (fun a w => Try.call67 a w) body67 cc67 (by kernel_rfl) ?_
  rw [Try.ntmps67]
  simp only [frs, Nat.reduceAdd, Nat.reduceSub]
  repeat (first | (with_reducible first | refine Way.imp ?_ | refine blk_o rfl ?_) | ((with_reducible refine WayR.imp (fun K hK => ?_)); simp (maxSteps := 2000000) (disch := first | omega | (simp only [dls]; omega)) only [std, reduceIte, reduceCtorEq, Int.reduceToNat, Nat.reduceAdd, Nat.reduceSub, Nat.reduceMul, Int.reduceAdd, Int.reduceSub, Int.reduceMul, Int.reduceNeg, fU, constAV_b, litL2, litK1]; subst hK) | (apply call_ret (i1) rfl; (case hcl => (simp only [evs, St.ev, constAV, evl]; (repeat (first | exact closeAVs_nil | (apply closeAVs_cons; (first | (refine close_own3 rfl (by decide)) | (refine close_ownO rfl (by decide) ?_; assumption) | rfl)))); done)); (case hf => rfl); (case hu => (simp only [evs, St.ev, constAV, evl]; (repeat (first | exact used_nil | (apply used_cons; (first | (apply used_own3; rfl) | rfl)))); done)); (case hh => ((simp only [fzl, Nat.reduceBEq, Nat.reduceAdd, Bool.false_eq_true, if_true, if_false, reduceIte]) <;> rfl))) | refine zcA (hint) rfl rfl rfl ?_ | (apply call_ret (ids := [0,3]) (hof) rfl; (case hcl => (simp only [evs, St.ev, constAV, evl]; (repeat (first | exact closeAVs_nil | (apply closeAVs_cons; (first | (refine close_own3 rfl (by decide)) | (refine close_ownO rfl (by decide) ?_; assumption) | rfl)))); done)); (case hf => rfl); (case hu => rfl); (case hh => ((simp only [fzl, Nat.reduceBEq, Nat.reduceAdd, Bool.false_eq_true, if_true, if_false, reduceIte]) <;> rfl))) | (apply call_ret_g (by simp (maxSteps := 2000000) (disch := first | omega | (simp only [dls]; omega)) only [std, reduceIte, reduceCtorEq, Int.reduceToNat, Nat.reduceAdd, Nat.reduceSub, Nat.reduceMul, Int.reduceAdd, Int.reduceSub, Int.reduceMul, Int.reduceNeg, fU, constAV_b, litL2, litK1]) (i2) rfl; (case hcl => (simp only [evs, St.ev, constAV, evl]; (repeat (first | exact closeAVs_nil | (apply closeAVs_cons; (first | (refine close_own3 rfl (by decide)) | (refine close_ownO rfl (by decide) ?_; assumption) | rfl)))); done)); (case hf => rfl); (case hu => (simp only [evs, St.ev, constAV, evl]; (repeat (first | exact used_nil | (apply used_cons; (first | (apply used_own3; rfl) | rfl)))); done)); (case hh => ((simp only [fzl, Nat.reduceBEq, Nat.reduceAdd, Bool.false_eq_true, if_true, if_false, reduceIte]) <;> rfl))) | (apply call_any_g (s1) rfl; (case hg => simp (maxSteps := 2000000) (disch := first | omega | (simp only [dls]; omega)) only [std, reduceIte, reduceCtorEq, Int.reduceToNat, Nat.reduceAdd, Nat.reduceSub, Nat.reduceMul, Int.reduceAdd, Int.reduceSub, Int.reduceMul, Int.reduceNeg, fU, constAV_b, litL2, litK1]); (case hcl => (simp only [evs, St.ev, constAV, evl]; (repeat (first | exact closeAVs_nil | (apply closeAVs_cons; (first | (refine close_own3 rfl (by decide)) | (refine close_ownO rfl (by decide) ?_; assumption) | rfl)))); done)); (case hu => rfl)) | (apply call_ret_g (by simp (maxSteps := 2000000) (disch := first | omega | (simp only [dls]; omega)) only [std, reduceIte, reduceCtorEq, Int.reduceToNat, Nat.reduceAdd, Nat.reduceSub, Nat.reduceMul, Int.reduceAdd, Int.reduceSub, Int.reduceMul, Int.reduceNeg, fU, constAV_b, litL2, litK1]) (i3) rfl; (case hcl => (simp only [evs, St.ev, constAV, evl]; (repeat (first | exact closeAVs_nil | (apply closeAVs_cons; (first | (refine close_own3 rfl (by decide)) | (refine close_ownO rfl (by decide) ?_; assumption) | rfl)))); done)); (case hf => rfl); (case hu => (simp only [evs, St.ev, constAV, evl]; (repeat (first | exact used_nil | (apply used_cons; (first | (apply used_own3; rfl) | rfl)))); done)); (case hh => ((simp only [fzl, Nat.reduceBEq, Nat.reduceAdd, Bool.false_eq_true, if_true, if_false, reduceIte]) <;> rfl))) | (apply call_any_g (s2) rfl; (case hg => simp (maxSteps := 2000000) (disch := first | omega | (simp only [dls]; omega)) only [std, reduceIte, reduceCtorEq, Int.reduceToNat, Nat.reduceAdd, Nat.reduceSub, Nat.reduceMul, Int.reduceAdd, Int.reduceSub, Int.reduceMul, Int.reduceNeg, fU, constAV_b, litL2, litK1]); (case hcl => (simp only [evs, St.ev, constAV, evl]; (repeat (first | exact closeAVs_nil | (apply closeAVs_cons; (first | (refine close_own3 rfl (by decide)) | (refine close_ownO rfl (by decide) ?_; assumption) | rfl)))); done)); (case hu => rfl)) | (apply call_ret_g (by simp (maxSteps := 2000000) (disch := first | omega | (simp only [dls]; omega)) only [std, reduceIte, reduceCtorEq, Int.reduceToNat, Nat.reduceAdd, Nat.reduceSub, Nat.reduceMul, Int.reduceAdd, Int.reduceSub, Int.reduceMul, Int.reduceNeg, fU, constAV_b, litL2, litK1]) (i4) rfl; (case hcl => (simp only [evs, St.ev, constAV, evl]; (repeat (first | exact closeAVs_nil | (apply closeAVs_cons; (first | (refine close_own3 rfl (by decide)) | (refine close_ownO rfl (by decide) ?_; assumption) | rfl)))); done)); (case hf => rfl); (case hu => (simp only [evs, St.ev, constAV, evl]; (repeat (first | exact used_nil | (apply used_cons; (first | (apply used_own3; rfl) | rfl)))); done)); (case hh => ((simp only [fzl, Nat.reduceBEq, Nat.reduceAdd, Bool.false_eq_true, if_true, if_false, reduceIte]) <;> rfl))) | (apply call_any_g (s3) rfl; (case hg => simp (maxSteps := 2000000) (disch := first | omega | (simp only [dls]; omega)) only [std, reduceIte, reduceCtorEq, Int.reduceToNat, Nat.reduceAdd, Nat.reduceSub, Nat.reduceMul, Int.reduceAdd, Int.reduceSub, Int.reduceMul, Int.reduceNeg, fU, constAV_b, litL2, litK1]); (case hcl => (simp only [evs, St.ev, constAV, evl]; (repeat (first | exact closeAVs_nil | (apply closeAVs_cons; (first | (refine close_own3 rfl (by decide)) | (refine close_ownO rfl (by decide) ?_; assumption) | rfl)))); done)); (case hu => rfl)) | (apply call_any_g (hr) rfl; (case hg => simp (maxSteps := 2000000) (disch := first | omega | (simp only [dls]; omega)) only [std, reduceIte, reduceCtorEq, Int.reduceToNat, Nat.reduceAdd, Nat.reduceSub, Nat.reduceMul, Int.reduceAdd, Int.reduceSub, Int.reduceMul, Int.reduceNeg, fU, constAV_b, litL2, litK1]); (case hcl => (simp only [evs, St.ev, constAV, evl]; (repeat (first | exact closeAVs_nil | (apply closeAVs_cons; (first | (refine close_own3 rfl (by decide)) | (refine close_ownO rfl (by decide) ?_; assumption) | rfl)))); done)); (case hu => rfl)) | (apply call_ret_g (by simp (maxSteps := 2000000) (disch := first | omega | (simp only [dls]; omega)) only [std, reduceIte, reduceCtorEq, Int.reduceToNat, Nat.reduceAdd, Nat.reduceSub, Nat.reduceMul, Int.reduceAdd, Int.reduceSub, Int.reduceMul, Int.reduceNeg, fU, constAV_b, litL2, litK1]) (i5) rfl; (case hcl => (simp only [evs, St.ev, constAV, evl]; (repeat (first | exact closeAVs_nil | (apply closeAVs_cons; (first | (refine close_own3 rfl (by decide)) | (refine close_ownO rfl (by decide) ?_; assumption) | rfl)))); done)); (case hf => rfl); (case hu => (simp only [evs, St.ev, constAV, evl]; (repeat (first | exact used_nil | (apply used_cons; (first | (apply used_own3; rfl) | rfl)))); done)); (case hh => ((simp only [fzl, Nat.reduceBEq, Nat.reduceAdd, Bool.false_eq_true, if_true, if_false, reduceIte]) <;> rfl))) | (apply call_any_g (hd) rfl; (case hg => simp (maxSteps := 2000000) (disch := first | omega | (simp only [dls]; omega)) only [std, reduceIte, reduceCtorEq, Int.reduceToNat, Nat.reduceAdd, Nat.reduceSub, Nat.reduceMul, Int.reduceAdd, Int.reduceSub, Int.reduceMul, Int.reduceNeg, fU, constAV_b, litL2, litK1]); (case hcl => (simp only [evs, St.ev, constAV, evl]; (repeat (first | exact closeAVs_nil | (apply closeAVs_cons; (first | (refine close_own3 rfl (by decide)) | (refine close_ownO rfl (by decide) ?_; assumption) | rfl)))); done)); (case hu => rfl)))
  exact ⟨_, rfl, rfl⟩

end Go.Proofs.Ytdhkdnmefeeclaa
set_option linter.unusedSimpArgs false
set_option linter.unusedVariables false
set_option maxRecDepth 100000
set_option maxHeartbeats 4000000
namespace Go.Proofs.Ytdhkdnmefeeclaa
open Go Go.Am Go.Proofs Go.RowKit Go.Off

def fewP (p : PB) : Bool := fewM p.A && (fewB p.B && fewB p.C)
abbrev c66 : CC := (.seq (.reg [⟨(some 1), none, (.box 86 (.tmp 0))⟩, ⟨(some 2), none, (.mv (.const (.bool false)))⟩]) (.seq (.reg [⟨(some 3), none, (.faddr 0 (.tmp 1))⟩, ⟨(some 4), none, (.load 1 false (.tmp 3))⟩, ⟨(some 5), none, (.callf (.func 54) [(.tmp 4)])⟩, ⟨(some 6), none, (.mv (.tmp 5))⟩, ⟨(some 7), (some (6, true)), (.faddr 1 (.tmp 1))⟩, ⟨(some 8), (some (6, true)), (.load 1 false (.tmp 7))⟩, ⟨(some 9), (some (6, true)), (.callf (.func 26) [(.tmp 8)])⟩, ⟨(some 10), none, (.pick (.tmp 6) (.tmp 9) (.const (.bool false)))⟩, ⟨(some 11), none, (.mv (.tmp 10))⟩, ⟨(some 12), (some (11, true)), (.faddr 2 (.tmp 1))⟩, ⟨(some 13), (some (11, true)), (.load 1 false (.tmp 12))⟩, ⟨(some 14), (some (11, true)), (.callf (.func 26) [(.tmp 13)])⟩, ⟨(some 15), none, (.pick (.tmp 11) (.tmp 14) (.const (.bool false)))⟩, ⟨(some 2), none, (.mv (.tmp 15))⟩]) .ret))
theorem cc66 : ccode Try.prog [] (Try.f66.body.getD .skip) = some c66 := by kernel_rfl
theorem body66 : Try.f66.body = some (Try.f66.body.getD .skip) := rfl

theorem fewP_C (p : PB) : PureC Try.prog 66 [aP p] (.ret (aB (fewP p))) := by
  have h1 := lfew_C p.A
  have h2 := few_C p.B
  have h3 := few_C p.C
  unfold fewP
  cases c1 : fewM p.A with
  | false =>
    rw [c1] at h1
    refine pureC_of (rs := [(RV.tmp 2)]) Try.func66 (fun a w => Try.call66 a w) body66 cc66 (by kernel_rfl) ?_
    rw [Try.ntmps66]
    simp only [frs, Nat.reduceAdd, Nat.reduceSub]
    repeat (first | (with_reducible first | refine Way.imp ?_ | refine blk_o rfl ?_) | ((with_reducible refine WayR.imp (fun K hK => ?_)); simp (disch := first | omega | (simp only [dls]; omega)) only [std, reduceIte, reduceCtorEq, Int.reduceToNat, Nat.reduceAdd, Nat.reduceSub, Nat.reduceMul, Int.reduceAdd, Int.reduceSub, Int.reduceMul, Int.reduceNeg, fU]; subst hK) | refine zcA (h1) rfl rfl rfl ?_)
    exact ⟨_, rfl, rfl⟩
  | true =>
    rw [c1] at h1
    rw [Bool.true_and]
    cases c2 : fewB p.B with
    | false =>
      rw [c2] at h2
      refine pureC_of (rs := [(RV.tmp 2)]) Try.func66 (fun a w => Try.call66 a w) body66 cc66 (by kernel_rfl) ?_
      rw [Try.ntmps66]
      simp only [frs, Nat.reduceAdd, Nat.reduceSub]
      repeat (first | (with_reducible first | refine Way.imp ?_ | refine blk_o rfl ?_) | ((with_reducible refine WayR.imp (fun K hK => ?_)); simp (disch := first | omega | (simp only [dls]; omega)) only [std, reduceIte, reduceCtorEq, Int.reduceToNat, Nat.reduceAdd, Nat.reduceSub, Nat.reduceMul, Int.reduceAdd, Int.reduceSub, Int.reduceMul, Int.reduceNeg, fU]; subst hK) | refine zcA (h1) rfl rfl rfl ?_ | (apply call_any_g (h2) rfl; (case hg => simp (disch := first | omega | (simp only [dls]; omega)) only [std, reduceIte, reduceCtorEq, Int.reduceToNat, Nat.reduceAdd, Nat.reduceSub, Nat.reduceMul, Int.reduceAdd, Int.reduceSub, Int.reduceMul, Int.reduceNeg, fU]); (case hcl => (simp only [evs, St.ev, constAV, evl]; (repeat (first | exact closeAVs_nil | (apply closeAVs_cons; (first | (refine close_own3 rfl (by decide)) | (refine close_ownO rfl (by decide) ?_; assumption) | rfl)))); done)); (case hu => rfl)))
      exact ⟨_, rfl, rfl⟩
    | true =>
      rw [c2] at h2
      rw [Bool.true_and]
      generalize fewB p.C = k at *
      refine pureC_of (rs := [(RV.tmp 2)]) Try.func66 (fun a w => Try.call66 a w) body66 cc66 (by kernel_rfl) ?_
      rw [Try.ntmps66]
      simp only [frs, Nat.reduceAdd, Nat.reduceSub]
      repeat (first | (with_reducible first | refine Way.imp ?_ | refine blk_o rfl ?_) | ((with_reducible refine WayR.imp (fun K hK => ?_)); simp (disch := first | omega | (simp only [dls]; omega)) only [std, reduceIte, reduceCtorEq, Int.reduceToNat, Nat.reduceAdd, Nat.reduceSub, Nat.reduceMul, Int.reduceAdd, Int.reduceSub, Int.reduceMul, Int.reduceNeg, fU]; subst hK) | refine zcA (h1) rfl rfl rfl ?_ | (apply call_any_g (h2) rfl; (case hg => simp (disch := first | omega | (simp only [dls]; omega)) only [std, reduceIte, reduceCtorEq, Int.reduceToNat, Nat.reduceAdd, Nat.reduceSub, Nat.reduceMul, Int.reduceAdd, Int.reduceSub, Int.reduceMul, Int.reduceNeg, fU]); (case hcl => (simp only [evs, St.ev, constAV, evl]; (repeat (first | exact closeAVs_nil | (apply closeAVs_cons; (first | (refine close_own3 rfl (by decide)) | (refine close_ownO rfl (by decide) ?_; assumption) | rfl)))); done)); (case hu => rfl)) | (apply call_any_g (h3) rfl; (case hg => simp (disch := first | omega | (simp only [dls]; omega)) only [std, reduceIte, reduceCtorEq, Int.reduceToNat, Nat.reduceAdd, Nat.reduceSub, Nat.reduceMul, Int.reduceAdd, Int.reduceSub, Int.reduceMul, Int.reduceNeg, fU]); (case hcl => (simp only [evs, St.ev, constAV, evl]; (repeat (first | exact closeAVs_nil | (apply closeAVs_cons; (first | (refine close_own3 rfl (by decide)) | (refine close_ownO rfl (by decide) ?_; assumption) | rfl)))); done)); (case hu => rfl)))
      exact ⟨_, rfl, rfl⟩
theorem fewP_fits {p : PB} (h : fewP p = true) : FitsP p 8 3 ∧ (osl p.A).length ≤ 4 := by
  unfold fewP at h
  simp only [Bool.and_eq_true] at h
  exact ⟨⟨fewM_fits h.1, fewB_fits h.2.1, fewB_fits h.2.2⟩, fewM_len h.1⟩

def rightP (p : PB) : Bool := !anyI (rowBad p) (osl p.A).length && decide ((osl p.B).length = (osl p.A).length)
theorem rightP_eq {p : PB} (h : FitsP p 8 3) (h4 : (osl p.A).length ≤ 4) : rightB p = rightP p := by
  have := h.2.2.1
  unfold rightB rightP
  rw [decide_eq_true (show (osl p.C).length ≤ 5000 by omega), decide_eq_true (show (osl p.A).length ≤ 90 by omega), Bool.true_and, Bool.true_and, Bool.and_comm]
abbrev c68_k1 : CC := (.seq (.reg [⟨(some 19), none, (.faddr 1 (.tmp 1))⟩, ⟨(some 20), none, (.load 1 false (.tmp 19))⟩, ⟨(some 21), none, (.len false (.tmp 20))⟩, ⟨(some 22), none, (.faddr 0 (.tmp 1))⟩, ⟨(some 23), none, (.load 1 false (.tmp 22))⟩, ⟨(some 24), none, (.len false (.tmp 23))⟩, ⟨(some 25), none, (.bin .eql (.tmp 21) (.tmp 24))⟩, ⟨(some 2), none, (.mv (.tmp 25))⟩]) .ret)
abbrev c68_b1 : CC := (.seq (.reg [⟨(some 9), none, (.bin .lss (.tmp 8) (.tmp 7))⟩]) (.seq (.cond (.tmp 9) .skip (.exit 0)) (.seq (.block 1 (.seq (.reg [⟨(some 10), none, (.iaddr 1 none (.tmp 6) (.tmp 8))⟩, ⟨(some 11), none, (.load 1 false (.tmp 10))⟩, ⟨(some 4), none, (.mv (.tmp 11))⟩]) (.seq (.reg [⟨(some 12), none, (.mv (.tmp 4))⟩, ⟨(some 13), none, (.len false (.tmp 12))⟩, ⟨(some 14), none, (.faddr 2 (.tmp 1))⟩, ⟨(some 15), none, (.load 1 false (.tmp 14))⟩, ⟨(some 16), none, (.len false (.tmp 15))⟩, ⟨(some 17), none, (.bin .neq (.tmp 13) (.tmp 16))⟩]) (.cond (.tmp 17) (.seq (.reg [⟨(some 2), none, (.mv (.const (.bool false)))⟩]) .ret) .skip)))) (.reg [⟨(some 18), none, (.bin .add (.tmp 8) (.const (.int .i64 (1))))⟩, ⟨(some 8), none, (.mv (.tmp 18))⟩]))))
abbrev c68 : CC := (.seq (.reg [⟨(some 1), none, (.box 86 (.tmp 0))⟩, ⟨(some 2), none, (.mv (.const (.bool false)))⟩]) (.seq (.seq (.reg [⟨(some 5), none, (.faddr 0 (.tmp 1))⟩, ⟨(some 6), none, (.load 1 false (.tmp 5))⟩, ⟨(some 7), none, (.len false (.tmp 6))⟩, ⟨(some 8), none, (.mv (.const (.int .i64 (0))))⟩]) (.block 0 (.loop c68_b1))) c68_k1))
theorem cc68 : ccode Try.prog [] (Try.f68.body.getD .skip) = some c68 := by kernel_rfl
theorem body68 : Try.f68.body = some (Try.f68.body.getD .skip) := rfl

theorem rightP_C (p : PB) (hl : (osl p.A).length ≤ 1000000) : PureC Try.prog 68 [aP p] (.ret (aB (rightP p))) := by
  unfold rightP
  refine pureC_of (rs := [(RV.tmp 2)]) Try.func68 (fun a w => Try.call68 a w) body68 cc68 (by kernel_rfl) ?_
  rw [Try.ntmps68]
  simp only [frs, Nat.reduceAdd, Nat.reduceSub]
  repeat (first | (with_reducible first | refine Way.imp ?_ | refine blk_o rfl ?_) | ((with_reducible refine WayR.imp (fun K hK => ?_)); simp (disch := first | omega | (simp only [dls]; omega)) only [std, reduceIte, reduceCtorEq, Int.reduceToNat, Nat.reduceAdd, Nat.reduceSub, Nat.reduceMul, Int.reduceAdd, Int.reduceSub, Int.reduceMul, Int.reduceNeg, fU]; subst hK))
  refine awp_loop (fun (zz : Nat) => ⟨(.junk :: .one (.ptr 0 0 0 0) :: .junk :: .junk :: .junk :: .junk :: aM p.A :: aI (osl p.A).length :: aI zz :: .junk :: .junk :: .junk :: .junk :: .junk :: .junk :: .junk :: .junk :: .junk :: .junk :: .junk :: .junk :: .junk :: .junk :: .junk :: .junk :: .junk :: []), [⟨0, 86, 3, [[.c (encSl 1 fM p.A), .c (vr p.B), .c (vr p.C)]], true, true⟩]⟩) (fun (zz : Nat) => zz ≤ (osl p.A).length ∧ anyI (rowBad p) zz = false) (fun (zz : Nat) => (osl p.A).length - zz) (0) ?hI1 (Fgt.head (Nat.zero_le 1) [false, true, false, false, false, false, true, true, true] ?hT1 ?hH1) ?hB1
  case hT1 => first | (simp (disch := omega) only [hds, liveT, cleanAV, cleanCell, clean1, cleanBlk, reduceIte, Int.reduceSub, Int.reduceAdd, Int.reduceNeg]; done) | rfl
  case hH1 => first | (simp (disch := omega) only [hds, liveT, cleanAV, cleanCell, clean1, cleanBlk, reduceIte, Int.reduceSub, Int.reduceAdd, Int.reduceNeg]; done) | rfl
  · exact ⟨Nat.zero_le _, rfl⟩
  rintro i ⟨hi, hs⟩
  by_cases him : i = (osl p.A).length
  · rw [← him, hs, Bool.not_false, Bool.true_and, him]
    by_cases h1 : (osl p.B).length = (osl p.A).length
    · rw [decide_eq_true h1]
      repeat (first | (with_reducible first | refine Way.imp ?_ | refine blk_o rfl ?_) | ((with_reducible refine WayR.imp (fun K hK => ?_)); simp (disch := first | omega | (simp only [dls]; omega)) only [std, reduceIte, reduceCtorEq, Int.reduceToNat, Nat.reduceAdd, Nat.reduceSub, Nat.reduceMul, Int.reduceAdd, Int.reduceSub, Int.reduceMul, Int.reduceNeg, fU, h1]; subst hK))
      exact ⟨_, rfl, rfl⟩
    · rw [decide_eq_false h1]
      repeat (first | (with_reducible first | refine Way.imp ?_ | refine blk_o rfl ?_) | ((with_reducible refine WayR.imp (fun K hK => ?_)); simp (disch := first | omega | (simp only [dls]; omega)) only [std, reduceIte, reduceCtorEq, Int.reduceToNat, Nat.reduceAdd, Nat.reduceSub, Nat.reduceMul, Int.reduceAdd, Int.reduceSub, Int.reduceMul, Int.reduceNeg, fU]; subst hK))
      exact ⟨_, rfl, rfl⟩
  · have hlt : i < (osl p.A).length := by omega
    have hb : rowBad p i = !decide ((osl (osl p.A)[i]).length = (osl p.C).length) := by unfold rowBad; rw [mAt_in hlt]
    by_cases he : (osl (osl p.A)[i]).length = (osl p.C).length
    · rw [decide_eq_true he] at hb
      repeat (first | (with_reducible first | refine Way.imp ?_ | refine blk_o rfl ?_) | ((with_reducible refine WayR.imp (fun K hK => ?_)); simp (disch := first | omega | (simp only [dls]; omega)) only [std, reduceIte, reduceCtorEq, Int.reduceToNat, Nat.reduceAdd, Nat.reduceSub, Nat.reduceMul, Int.reduceAdd, Int.reduceSub, Int.reduceMul, Int.reduceNeg, fU, fM, he]; subst hK))
      refine ⟨(i + 1), ?hI2, ?hM2, Fgt.head (Nat.zero_le 1) [false, true, false, false, false, false, true, true, true] ?hT2 ?hH2⟩
      case hT2 => first | (simp (disch := omega) only [hds, liveT, cleanAV, cleanCell, clean1, cleanBlk, reduceIte, Int.reduceSub, Int.reduceAdd, Int.reduceNeg]; done) | rfl
      case hH2 => first | (simp (disch := omega) only [hds, liveT, cleanAV, cleanCell, clean1, cleanBlk, reduceIte, Int.reduceSub, Int.reduceAdd, Int.reduceNeg]; done) | rfl
      · exact ⟨Nat.succ_le_of_lt hlt, by rw [anyI_succ, hs, hb]; rfl⟩
      · show (osl p.A).length - (i + 1) < (osl p.A).length - i; omega
    · rw [decide_eq_false he] at hb
      have hany : anyI (rowBad p) (osl p.A).length = true := by
        unfold anyI
        rw [List.any_eq_true]
        exact ⟨i, List.mem_range.2 hlt, by rw [hb]; rfl⟩
      rw [hany]
      repeat (first | (with_reducible first | refine Way.imp ?_ | refine blk_o rfl ?_) | ((with_reducible refine WayR.imp (fun K hK => ?_)); simp (disch := first | omega | (simp only [dls]; omega)) only [std, reduceIte, reduceCtorEq, Int.reduceToNat, Nat.reduceAdd, Nat.reduceSub, Nat.reduceMul, Int.reduceAdd, Int.reduceSub, Int.reduceMul, Int.reduceNeg, fU, fM]; subst hK))
      exact ⟨_, rfl, rfl⟩

theorem sgn_ge (r : RR) : (0 ≤ sgn r.top) ↔ belowB r = false := by
  have := sgn_below r
  rw [← this]
  simp

end Go.Proofs.Ytdhkdnmefeeclaa
