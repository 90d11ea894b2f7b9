/- Walks of shape: Right, Does; slices.ContainsFunc by any test. -/
import Derived.Test.YtdhkdnmefeeclaaA5
import Derived.Test.YtdhkdnmefeeclaaM0
set_option linter.unusedSimpArgs false
set_option linter.unusedVariables false
set_option linter.unnecessarySimpa false
set_option linter.unusedSimpArgs false
set_option linter.unusedVariables false
set_option maxRecDepth 100000
set_option maxHeartbeats 4000000
namespace Go.Proofs.Ytdhkdnmefeeclaa
open Go Go.Am Go.Proofs Go.RowKit Go.Off

/-- The first place that a test tells; -1: none. -/
def fstI (p : Nat → Bool) (n : Nat) : Int := match (List.range n).find? p with | some i => (i : Int) | none => -1
def anyI (p : Nat → Bool) (n : Nat) : Bool := (List.range n).any p
theorem anyI_succ (p : Nat → Bool) (n : Nat) : anyI p (n + 1) = (anyI p n || p n) := by unfold anyI; rw [List.range_succ, List.any_append]; simp
theorem anyI_false {p : Nat → Bool} {n i : Nat} (h : anyI p n = false) (hi : i < n) : p i = false := by
  have := List.any_eq_false.1 h i (List.mem_range.2 hi)
  simpa using this
theorem anyI_of {p : Nat → Bool} {n : Nat} (h : ∀ i, i < n → p i = false) : anyI p n = false := by
  unfold anyI
  rw [List.any_eq_false]
  intro i hi
  rw [h i (List.mem_range.1 hi)]
  simp
theorem fstI_none {p : Nat → Bool} {n : Nat} (h : anyI p n = false) : fstI p n = -1 := by
  unfold fstI
  rw [List.find?_eq_none.2 (fun i hi => by rw [anyI_false h (List.mem_range.1 hi)]; simp)]
theorem fstI_some {p : Nat → Bool} {n k : Nat} (hk : k < n) (hz : anyI p k = false) (h : p k = true) : fstI p n = k := by
  unfold fstI
  have : (List.range n).find? p = some k := by
    rw [List.find?_range_eq_some]
    refine ⟨h, List.mem_range.2 hk, fun i hi => ?_⟩
    rw [anyI_false hz hi]
    rfl
  rw [this]
theorem fstI_any (p : Nat → Bool) (n : Nat) : decide (fstI p n ≥ 0) = anyI p n := by
  cases h : anyI p n with
  | false => rw [fstI_none h]; rfl
  | true =>
    unfold anyI at h
    rw [List.any_eq_true] at h
    obtain ⟨i, hi, hp⟩ := h
    unfold fstI
    cases hf : (List.range n).find? p with
    | none =>
      have := List.find?_eq_none.1 hf i hi
      exact (this hp).elim
    | some k => simp

/-! ### problems -/

structure PB where
  A : MM
  B : VV
  C : VV
def cP (p : PB) : List CV := [encSl 1 fM p.A, vr p.B, vr p.C]
abbrev aP (p : PB) : AV := .agg [.c (encSl 1 fM p.A), .c (vr p.B), .c (vr p.C)]
abbrev aRg1 (p : PB) : AV := .one (.fn 123 [.iptr [encSl 1 fM p.A, vr p.B, vr p.C]])
def rowBad (p : PB) (i : Nat) : Bool := !decide ((osl (mAt p.A i)).length = (osl p.C).length)
def rightB (p : PB) : Bool := decide ((osl p.C).length ≤ 5000) && (decide ((osl p.A).length ≤ 90) && (decide ((osl p.B).length = (osl p.A).length) && !anyI (rowBad p) (osl p.A).length))

abbrev c123 : CC := (.seq (.reg [⟨(some 3), none, (.mv (.const (.bool false)))⟩]) (.seq (.reg [⟨(some 4), none, (.mv (.tmp 0))⟩, ⟨(some 5), none, (.len false (.tmp 4))⟩, ⟨(some 6), none, (.faddr 2 (.tmp 1))⟩, ⟨(some 7), none, (.load 1 false (.tmp 6))⟩, ⟨(some 8), none, (.len false (.tmp 7))⟩, ⟨(some 9), none, (.bin .neq (.tmp 5) (.tmp 8))⟩, ⟨(some 3), none, (.mv (.tmp 9))⟩]) .ret))
theorem cc123 : ccode Try.prog [] (Try.f123.body.getD .skip) = some c123 := by kernel_rfl
theorem body123 : Try.f123.body = some (Try.f123.body.getD .skip) := rfl

theorem right1_C (v : VV) (a b : CV) (c : VV) : PureC Try.prog 123 [aV v, .one (.iptr [a, b, vr c])] (.ret (aB (!decide ((osl v).length = (osl c).length)))) := by
  by_cases h : (osl v).length = (osl c).length
  · rw [decide_eq_true h]
    refine pureC_of (rs := [(RV.tmp 3)]) Try.func123 (fun a w => Try.call123 a w) body123 cc123 (by kernel_rfl) ?_
    rw [Try.ntmps123]
    simp only [frs, Nat.reduceAdd, Nat.reduceSub]
    repeat (first | (with_reducible first | refine Way.imp ?_ | refine blk_o rfl ?_) | ((with_reducible refine WayR.imp (fun K hK => ?_)); simp (disch := first | omega | (simp only [dls]; omega)) only [std, reduceIte, reduceCtorEq, Int.reduceToNat, Nat.reduceAdd, Nat.reduceSub, Nat.reduceMul, Int.reduceAdd, Int.reduceSub, Int.reduceMul, Int.reduceNeg, fU, h]; subst hK))
    exact ⟨_, rfl, rfl⟩
  · rw [decide_eq_false h]
    refine pureC_of (rs := [(RV.tmp 3)]) Try.func123 (fun a w => Try.call123 a w) body123 cc123 (by kernel_rfl) ?_
    rw [Try.ntmps123]
    simp only [frs, Nat.reduceAdd, Nat.reduceSub]
    repeat (first | (with_reducible first | refine Way.imp ?_ | refine blk_o rfl ?_) | ((with_reducible refine WayR.imp (fun K hK => ?_)); simp (disch := first | omega | (simp only [dls]; omega)) only [std, reduceIte, reduceCtorEq, Int.reduceToNat, Nat.reduceAdd, Nat.reduceSub, Nat.reduceMul, Int.reduceAdd, Int.reduceSub, Int.reduceMul, Int.reduceNeg, fU]; subst hK))
    exact ⟨_, rfl, rfl⟩

abbrev c166_k1 : CC := (.seq (.reg [⟨(some 4), none, (.mv (.const (.int .i64 (-1))))⟩]) .ret)
abbrev c166_b1 : CC := (.seq (.reg [⟨(some 9), none, (.bin .lss (.tmp 8) (.tmp 7))⟩]) (.seq (.cond (.tmp 9) .skip (.exit 0)) (.seq (.block 1 (.seq (.reg [⟨(some 10), none, (.mv (.tmp 8))⟩, ⟨(some 5), none, (.mv (.tmp 10))⟩]) (.seq (.reg [⟨(some 11), none, (.mv (.tmp 1))⟩, ⟨(some 12), none, (.mv (.tmp 0))⟩, ⟨(some 13), none, (.mv (.tmp 5))⟩, ⟨(some 14), none, (.iaddr 1 none (.tmp 12) (.tmp 13))⟩, ⟨(some 15), none, (.load 1 false (.tmp 14))⟩, ⟨(some 16), none, (.callf (.tmp 11) [(.tmp 15)])⟩]) (.cond (.tmp 16) (.seq (.reg [⟨(some 17), none, (.mv (.tmp 5))⟩, ⟨(some 4), none, (.mv (.tmp 17))⟩]) .ret) .skip)))) (.reg [⟨(some 18), none, (.bin .add (.tmp 8) (.const (.int .i64 (1))))⟩, ⟨(some 8), none, (.mv (.tmp 18))⟩]))))
abbrev c166 : CC := (.seq (.reg [⟨(some 4), none, (.mv (.const (.int .i64 (0))))⟩]) (.seq (.seq (.reg [⟨(some 6), none, (.mv (.tmp 0))⟩, ⟨(some 7), none, (.len false (.tmp 6))⟩, ⟨(some 8), none, (.mv (.const (.int .i64 (0))))⟩]) (.block 0 (.loop c166_b1))) c166_k1))
theorem cc166 : ccode Try.prog [] (Try.f166.body.getD .skip) = some c166 := by kernel_rfl
theorem body166 : Try.f166.body = some (Try.f166.body.getD .skip) := rfl

theorem idxM_C (p : PB) (hl : (osl p.A).length ≤ 1000000) :
    PureC Try.prog 166 [aM p.A, aRg1 p] (.ret (aI (fstI (rowBad p) (osl p.A).length))) := by
  refine pureC_of (rs := [(RV.tmp 4)]) Try.func166 (fun a w => Try.call166 a w) body166 cc166 (by kernel_rfl) ?_
  rw [Try.ntmps166]
  simp only [frs, Nat.reduceAdd, Nat.reduceSub]
  repeat (first | (with_reducible first | refine Way.imp ?_ | refine blk_o rfl ?_) | ((with_reducible refine WayR.imp (fun K hK => ?_)); simp (disch := first | omega | (simp only [dls]; omega)) only [std, reduceIte, reduceCtorEq, Int.reduceToNat, Nat.reduceAdd, Nat.reduceSub, Nat.reduceMul, Int.reduceAdd, Int.reduceSub, Int.reduceMul, Int.reduceNeg, fU]; subst hK))
  refine awp_loop (fun (zz : Nat) => ⟨(aM p.A :: aRg1 p :: .junk :: .junk :: aI 0 :: .junk :: aM p.A :: aI (osl p.A).length :: aI zz :: .junk :: .junk :: .junk :: .junk :: .junk :: .junk :: .junk :: .junk :: .junk :: .junk :: []), []⟩) (fun (zz : Nat) => zz ≤ (osl p.A).length ∧ anyI (rowBad p) zz = false) (fun (zz : Nat) => (osl p.A).length - zz) (0) ?hI1 (Fgt.head (Nat.le_refl _) [true, true, false, false, true, false, true, true, true] ?hT1 ?hH1) ?hB1
  case hT1 => first | (simp (disch := omega) only [hds, liveT, cleanAV, cleanCell, clean1, cleanBlk, reduceIte, Int.reduceSub, Int.reduceAdd, Int.reduceNeg]; done) | rfl
  case hH1 => first | (simp (disch := omega) only [hds, liveT, cleanAV, cleanCell, clean1, cleanBlk, reduceIte, Int.reduceSub, Int.reduceAdd, Int.reduceNeg]; done) | rfl
  · exact ⟨Nat.zero_le _, rfl⟩
  rintro i ⟨hi, hs⟩
  by_cases him : i = (osl p.A).length
  · repeat (first | (with_reducible first | refine Way.imp ?_ | refine blk_o rfl ?_) | ((with_reducible refine WayR.imp (fun K hK => ?_)); simp (disch := first | omega | (simp only [dls]; omega)) only [std, reduceIte, reduceCtorEq, Int.reduceToNat, Nat.reduceAdd, Nat.reduceSub, Nat.reduceMul, Int.reduceAdd, Int.reduceSub, Int.reduceMul, Int.reduceNeg, fU]; subst hK))
    rw [fstI_none (by rw [← him]; exact hs)]
    exact ⟨_, rfl, rfl⟩
  · have hlt : i < (osl p.A).length := by omega
    have hz := right1_C (osl p.A)[i] (encSl 1 fM p.A) (vr p.B) p.C
    have hb : rowBad p i = !decide ((osl (osl p.A)[i]).length = (osl p.C).length) := by unfold rowBad; rw [mAt_in hlt]
    by_cases he : (osl (osl p.A)[i]).length = (osl p.C).length
    · rw [decide_eq_true he] at hz hb
      repeat (first | (with_reducible first | refine Way.imp ?_ | refine blk_o rfl ?_) | ((with_reducible refine WayR.imp (fun K hK => ?_)); simp (disch := first | omega | (simp only [dls]; omega)) only [std, reduceIte, reduceCtorEq, Int.reduceToNat, Nat.reduceAdd, Nat.reduceSub, Nat.reduceMul, Int.reduceAdd, Int.reduceSub, Int.reduceMul, Int.reduceNeg, fU, fM, Bool.not_true]; subst hK) | refine zcV (hz) rfl rfl rfl ?_)
      refine ⟨(i + 1), ?hI2, ?hM2, Fgt.head (Nat.le_refl _) [true, true, false, false, true, false, true, true, true] ?hT2 ?hH2⟩
      case hT2 => first | (simp (disch := omega) only [hds, liveT, cleanAV, cleanCell, clean1, cleanBlk, reduceIte, Int.reduceSub, Int.reduceAdd, Int.reduceNeg]; done) | rfl
      case hH2 => first | (simp (disch := omega) only [hds, liveT, cleanAV, cleanCell, clean1, cleanBlk, reduceIte, Int.reduceSub, Int.reduceAdd, Int.reduceNeg]; done) | rfl
      · exact ⟨Nat.succ_le_of_lt hlt, by rw [anyI_succ, hs, hb]; rfl⟩
      · show (osl p.A).length - (i + 1) < (osl p.A).length - i; omega
    · rw [decide_eq_false he] at hz hb
      repeat (first | (with_reducible first | refine Way.imp ?_ | refine blk_o rfl ?_) | ((with_reducible refine WayR.imp (fun K hK => ?_)); simp (disch := first | omega | (simp only [dls]; omega)) only [std, reduceIte, reduceCtorEq, Int.reduceToNat, Nat.reduceAdd, Nat.reduceSub, Nat.reduceMul, Int.reduceAdd, Int.reduceSub, Int.reduceMul, Int.reduceNeg, fU, fM, Bool.not_false]; subst hK) | refine zcV (hz) rfl rfl rfl ?_)
      rw [fstI_some hlt hs (by rw [hb]; rfl)]
      exact ⟨_, rfl, rfl⟩

abbrev c124 : CC := (.seq (.reg [⟨(some 4), none, (.mv (.const (.bool false)))⟩]) (.seq (.reg [⟨(some 5), none, (.mv (.tmp 0))⟩, ⟨(some 6), none, (.mv (.tmp 1))⟩, ⟨(some 7), none, (.callf (.func 166) [(.tmp 5), (.tmp 6)])⟩, ⟨(some 8), none, (.bin .geq (.tmp 7) (.const (.int .i64 (0))))⟩, ⟨(some 4), none, (.mv (.tmp 8))⟩]) .ret))
theorem cc124 : ccode Try.prog [] (Try.f124.body.getD .skip) = some c124 := by kernel_rfl
theorem body124 : Try.f124.body = some (Try.f124.body.getD .skip) := rfl

theorem conM_C (p : PB) (hl : (osl p.A).length ≤ 1000000) :
    PureC Try.prog 124 [aM p.A, aRg1 p] (.ret (aB (anyI (rowBad p) (osl p.A).length))) := by
  have hx := idxM_C p hl
  rw [← fstI_any]
  generalize fstI (rowBad p) (osl p.A).length = k at *
  refine pureC_of (rs := [(RV.tmp 4)]) Try.func124 (fun a w => Try.call124 a w) body124 cc124 (by kernel_rfl) ?_
  rw [Try.ntmps124]
  simp only [frs, Nat.reduceAdd, Nat.reduceSub]
  repeat (first | (with_reducible first | refine Way.imp ?_ | refine blk_o rfl ?_) | ((with_reducible refine WayR.imp (fun K hK => ?_)); simp (disch := first | omega | (simp only [dls]; omega)) only [std, reduceIte, reduceCtorEq, Int.reduceToNat, Nat.reduceAdd, Nat.reduceSub, Nat.reduceMul, Int.reduceAdd, Int.reduceSub, Int.reduceMul, Int.reduceNeg, fU]; subst hK) | refine zcA (hx) rfl rfl rfl ?_)
  exact ⟨_, rfl, rfl⟩

abbrev c70 : CC := (.seq (.reg [⟨(some 1), none, (.box 86 (.tmp 0))⟩, ⟨(some 2), none, (.mv (.const (.bool false)))⟩]) (.seq (.reg [⟨(some 4), none, (.mkfn 123 [(.tmp 1)])⟩, ⟨(some 3), none, (.mv (.tmp 4))⟩]) (.seq (.reg [⟨(some 5), none, (.faddr 2 (.tmp 1))⟩, ⟨(some 6), none, (.load 1 false (.tmp 5))⟩, ⟨(some 7), none, (.len false (.tmp 6))⟩, ⟨(some 8), none, (.bin .leq (.tmp 7) (.const (.int .i64 (5000))))⟩, ⟨(some 9), none, (.mv (.tmp 8))⟩, ⟨(some 10), (some (9, true)), (.faddr 0 (.tmp 1))⟩, ⟨(some 11), (some (9, true)), (.load 1 false (.tmp 10))⟩, ⟨(some 12), (some (9, true)), (.len false (.tmp 11))⟩, ⟨(some 13), (some (9, true)), (.bin .leq (.tmp 12) (.const (.int .i64 (90))))⟩, ⟨(some 14), none, (.pick (.tmp 9) (.tmp 13) (.const (.bool false)))⟩, ⟨(some 15), none, (.mv (.tmp 14))⟩, ⟨(some 16), (some (15, true)), (.faddr 1 (.tmp 1))⟩, ⟨(some 17), (some (15, true)), (.load 1 false (.tmp 16))⟩, ⟨(some 18), (some (15, true)), (.len false (.tmp 17))⟩, ⟨(some 19), (some (15, true)), (.faddr 0 (.tmp 1))⟩, ⟨(some 20), (some (15, true)), (.load 1 false (.tmp 19))⟩, ⟨(some 21), (some (15, true)), (.len false (.tmp 20))⟩, ⟨(some 22), (some (15, true)), (.bin .eql (.tmp 18) (.tmp 21))⟩, ⟨(some 23), none, (.pick (.tmp 15) (.tmp 22) (.const (.bool false)))⟩, ⟨(some 24), none, (.mv (.tmp 23))⟩, ⟨(some 25), (some (24, true)), (.faddr 0 (.tmp 1))⟩, ⟨(some 26), (some (24, true)), (.load 1 false (.tmp 25))⟩, ⟨(some 27), (some (24, true)), (.mv (.tmp 3))⟩, ⟨(some 28), (some (24, true)), (.callf (.func 124) [(.tmp 26), (.tmp 27)])⟩, ⟨(some 29), (some (24, true)), (.un .not (.tmp 28))⟩, ⟨(some 30), none, (.pick (.tmp 24) (.tmp 29) (.const (.bool false)))⟩, ⟨(some 2), none, (.mv (.tmp 30))⟩]) .ret)))
theorem cc70 : ccode Try.prog [] (Try.f70.body.getD .skip) = some c70 := by kernel_rfl
theorem body70 : Try.f70.body = some (Try.f70.body.getD .skip) := rfl

theorem sright_C (p : PB) : PureC Try.prog 70 [aP p] (.ret (aB (rightB p))) := by
  unfold rightB
  by_cases h1 : (osl p.C).length ≤ 5000
  · rw [decide_eq_true h1, Bool.true_and]
    by_cases h2 : (osl p.A).length ≤ 90
    · rw [decide_eq_true h2, Bool.true_and]
      by_cases h3 : (osl p.B).length = (osl p.A).length
      · rw [decide_eq_true h3, Bool.true_and]
        have hx := conM_C p (by omega)
        generalize anyI (rowBad p) (osl p.A).length = k at *
        refine pureC_of (rs := [(RV.tmp 2)]) Try.func70 (fun a w => Try.call70 a w) body70 cc70 (by kernel_rfl) ?_
        rw [Try.ntmps70]
        simp only [frs, Nat.reduceAdd, Nat.reduceSub]
        repeat (first | (with_reducible first | refine Way.imp ?_ | refine blk_o rfl ?_) | ((with_reducible refine WayR.imp (fun K hK => ?_)); simp (disch := first | omega | (simp only [dls]; omega)) only [std, reduceIte, reduceCtorEq, Int.reduceToNat, Nat.reduceAdd, Nat.reduceSub, Nat.reduceMul, Int.reduceAdd, Int.reduceSub, Int.reduceMul, Int.reduceNeg, fU, h3]; subst hK) | (apply call_flat_g (by simp (disch := first | omega | (simp only [dls]; omega)) only [std, reduceIte, reduceCtorEq, Int.reduceToNat, Nat.reduceAdd, Nat.reduceSub, Nat.reduceMul, Int.reduceAdd, Int.reduceSub, Int.reduceMul, Int.reduceNeg, fU, h3]) (hx) rfl; (case hcl => (simp only [evs, St.ev, constAV, evl]; (repeat (first | exact closeAVs_nil | (apply closeAVs_cons; (first | (refine close_own3 rfl (by decide)) | (refine close_ownO rfl (by decide) ?_; assumption) | rfl)))); done)); (case hf => rfl)))
        exact ⟨_, rfl, rfl⟩
      · rw [decide_eq_false h3, Bool.false_and]
        refine pureC_of (rs := [(RV.tmp 2)]) Try.func70 (fun a w => Try.call70 a w) body70 cc70 (by kernel_rfl) ?_
        rw [Try.ntmps70]
        simp only [frs, Nat.reduceAdd, Nat.reduceSub]
        repeat (first | (with_reducible first | refine Way.imp ?_ | refine blk_o rfl ?_) | ((with_reducible refine WayR.imp (fun K hK => ?_)); simp (disch := first | omega | (simp only [dls]; omega)) only [std, reduceIte, reduceCtorEq, Int.reduceToNat, Nat.reduceAdd, Nat.reduceSub, Nat.reduceMul, Int.reduceAdd, Int.reduceSub, Int.reduceMul, Int.reduceNeg, fU]; subst hK))
        exact ⟨_, rfl, rfl⟩
    · rw [decide_eq_false h2, Bool.false_and]
      refine pureC_of (rs := [(RV.tmp 2)]) Try.func70 (fun a w => Try.call70 a w) body70 cc70 (by kernel_rfl) ?_
      rw [Try.ntmps70]
      simp only [frs, Nat.reduceAdd, Nat.reduceSub]
      repeat (first | (with_reducible first | refine Way.imp ?_ | refine blk_o rfl ?_) | ((with_reducible refine WayR.imp (fun K hK => ?_)); simp (disch := first | omega | (simp only [dls]; omega)) only [std, reduceIte, reduceCtorEq, Int.reduceToNat, Nat.reduceAdd, Nat.reduceSub, Nat.reduceMul, Int.reduceAdd, Int.reduceSub, Int.reduceMul, Int.reduceNeg, fU]; subst hK))
      exact ⟨_, rfl, rfl⟩
  · rw [decide_eq_false h1, Bool.false_and]
    refine pureC_of (rs := [(RV.tmp 2)]) Try.func70 (fun a w => Try.call70 a w) body70 cc70 (by kernel_rfl) ?_
    rw [Try.ntmps70]
    simp only [frs, Nat.reduceAdd, Nat.reduceSub]
    repeat (first | (with_reducible first | refine Way.imp ?_ | refine blk_o rfl ?_) | ((with_reducible refine WayR.imp (fun K hK => ?_)); simp (disch := first | omega | (simp only [dls]; omega)) only [std, reduceIte, reduceCtorEq, Int.reduceToNat, Nat.reduceAdd, Nat.reduceSub, Nat.reduceMul, Int.reduceAdd, Int.reduceSub, Int.reduceMul, Int.reduceNeg, fU]; subst hK))
    exact ⟨_, rfl, rfl⟩

end Go.Proofs.Ytdhkdnmefeeclaa
set_option linter.unusedSimpArgs false
set_option linter.unusedVariables false
set_option maxRecDepth 100000
set_option maxHeartbeats 4000000
namespace Go.Proofs.Ytdhkdnmefeeclaa
open Go Go.Am Go.Proofs Go.RowKit Go.Off

def pAt (q : RR → Bool) (a : VV) (i : Nat) : Bool := q (rAt a i)
abbrev aFn (f : FuncId) : AV := .one (.fn f [])
theorem idxR_C (a : VV) (f : FuncId) (q : RR → Bool) (hl : (osl a).length ≤ 1000000) (hq : ∀ r ∈ osl a, PureC Try.prog f [aR r] (.ret (aB (q r)))) :
    PureC Try.prog 163 [aV a, aFn f] (.ret (aI (fstI (pAt q a) (osl a).length))) := by
  refine pureC_of (rs := [(RV.tmp 4)]) Try.func163 (fun a w => Try.call163 a w) body163 cc163 (by kernel_rfl) ?_
  rw [Try.ntmps163]
  simp only [frs, Nat.reduceAdd, Nat.reduceSub]
  repeat (first | (with_reducible first | refine Way.imp ?_ | refine blk_o rfl ?_) | ((with_reducible refine WayR.imp (fun K hK => ?_)); simp (disch := first | omega | (simp only [dls]; omega)) only [std, reduceIte, reduceCtorEq, Int.reduceToNat, Nat.reduceAdd, Nat.reduceSub, Nat.reduceMul, Int.reduceAdd, Int.reduceSub, Int.reduceMul, Int.reduceNeg, fU]; subst hK))
  refine awp_loop (fun (zz : Nat) => ⟨(aV a :: aFn f :: .junk :: .junk :: aI 0 :: .junk :: aV a :: aI (osl a).length :: aI zz :: .junk :: .junk :: .junk :: .junk :: .junk :: .junk :: .junk :: .junk :: .junk :: .junk :: []), []⟩) (fun (zz : Nat) => zz ≤ (osl a).length ∧ anyI (pAt q a) zz = false) (fun (zz : Nat) => (osl a).length - zz) (0) ?hI1 (Fgt.head (Nat.le_refl _) [true, true, false, false, true, false, true, true, true] ?hT1 ?hH1) ?hB1
  case hT1 => first | (simp (disch := omega) only [hds, liveT, cleanAV, cleanCell, clean1, cleanBlk, reduceIte, Int.reduceSub, Int.reduceAdd, Int.reduceNeg]; done) | rfl
  case hH1 => first | (simp (disch := omega) only [hds, liveT, cleanAV, cleanCell, clean1, cleanBlk, reduceIte, Int.reduceSub, Int.reduceAdd, Int.reduceNeg]; done) | rfl
  · exact ⟨Nat.zero_le _, rfl⟩
  rintro i ⟨hi, hs⟩
  by_cases him : i = (osl a).length
  · repeat (first | (with_reducible first | refine Way.imp ?_ | refine blk_o rfl ?_) | ((with_reducible refine WayR.imp (fun K hK => ?_)); simp (disch := first | omega | (simp only [dls]; omega)) only [std, reduceIte, reduceCtorEq, Int.reduceToNat, Nat.reduceAdd, Nat.reduceSub, Nat.reduceMul, Int.reduceAdd, Int.reduceSub, Int.reduceMul, Int.reduceNeg, fU]; subst hK))
    rw [fstI_none (by rw [← him]; exact hs)]
    exact ⟨_, rfl, rfl⟩
  · have hlt : i < (osl a).length := by omega
    have hz := hq _ (List.getElem_mem hlt)
    have hb : pAt q a i = q (osl a)[i] := by unfold pAt; rw [rAt_in hlt]
    cases he : q (osl a)[i] with
    | false =>
      rw [he] at hz hb
      repeat (first | (with_reducible first | refine Way.imp ?_ | refine blk_o rfl ?_) | ((with_reducible refine WayR.imp (fun K hK => ?_)); simp (disch := first | omega | (simp only [dls]; omega)) only [std, reduceIte, reduceCtorEq, Int.reduceToNat, Nat.reduceAdd, Nat.reduceSub, Nat.reduceMul, Int.reduceAdd, Int.reduceSub, Int.reduceMul, Int.reduceNeg, fU, fR]; subst hK) | refine zcV (hz) rfl rfl rfl ?_)
      refine ⟨(i + 1), ?hI2, ?hM2, Fgt.head (Nat.le_refl _) [true, true, false, false, true, false, true, true, true] ?hT2 ?hH2⟩
      case hT2 => first | (simp (disch := omega) only [hds, liveT, cleanAV, cleanCell, clean1, cleanBlk, reduceIte, Int.reduceSub, Int.reduceAdd, Int.reduceNeg]; done) | rfl
      case hH2 => first | (simp (disch := omega) only [hds, liveT, cleanAV, cleanCell, clean1, cleanBlk, reduceIte, Int.reduceSub, Int.reduceAdd, Int.reduceNeg]; done) | rfl
      · exact ⟨Nat.succ_le_of_lt hlt, by rw [anyI_succ, hs, hb]; rfl⟩
      · show (osl a).length - (i + 1) < (osl a).length - i; omega
    | true =>
      rw [he] at hz hb
      repeat (first | (with_reducible first | refine Way.imp ?_ | refine blk_o rfl ?_) | ((with_reducible refine WayR.imp (fun K hK => ?_)); simp (disch := first | omega | (simp only [dls]; omega)) only [std, reduceIte, reduceCtorEq, Int.reduceToNat, Nat.reduceAdd, Nat.reduceSub, Nat.reduceMul, Int.reduceAdd, Int.reduceSub, Int.reduceMul, Int.reduceNeg, fU, fR]; subst hK) | refine zcV (hz) rfl rfl rfl ?_)
      rw [fstI_some hlt hs hb]
      exact ⟨_, rfl, rfl⟩
theorem conR_C (a : VV) (f : FuncId) (q : RR → Bool) (hl : (osl a).length ≤ 1000000) (hq : ∀ r ∈ osl a, PureC Try.prog f [aR r] (.ret (aB (q r)))) :
    PureC Try.prog 111 [aV a, aFn f] (.ret (aB (anyI (pAt q a) (osl a).length))) := by
  have hx := idxR_C a f q hl hq
  rw [← fstI_any]
  generalize fstI (pAt q a) (osl a).length = k at *
  refine pureC_of (rs := [(RV.tmp 4)]) Try.func111 (fun a w => Try.call111 a w) body111 cc111 (by kernel_rfl) ?_
  rw [Try.ntmps111]
  simp only [frs, Nat.reduceAdd, Nat.reduceSub]
  repeat (first | (with_reducible first | refine Way.imp ?_ | refine blk_o rfl ?_) | ((with_reducible refine WayR.imp (fun K hK => ?_)); simp (disch := first | omega | (simp only [dls]; omega)) only [std, reduceIte, reduceCtorEq, Int.reduceToNat, Nat.reduceAdd, Nat.reduceSub, Nat.reduceMul, Int.reduceAdd, Int.reduceSub, Int.reduceMul, Int.reduceNeg, fU]; subst hK) | refine zcA (hx) rfl rfl rfl ?_)
  exact ⟨_, rfl, rfl⟩

def belowB (r : RR) : Bool := decide (r.val < 0)
theorem sgn_below (r : RR) : decide (sgn r.top < 0) = belowB r := by
  unfold belowB
  have h : r.val < 0 ↔ r.top < 0 := by
    have h1 := mkRat_lt (n := r.top) (m := 0) (d := r.bot) (e := 1) r.bot_ne (by decide)
    rw [show mkRat 0 1 = (0 : Rat) from rfl] at h1
    unfold RR.val
    rw [h1]
    simp
  unfold sgn
  by_cases h1 : r.top < 0
  · rw [if_pos h1, decide_eq_true (h.2 h1)]; rfl
  · rw [if_neg h1, decide_eq_false (fun e => h1 (h.1 e))]
    split <;> rfl

abbrev c122 : CC := (.seq (.reg [⟨(some 1), none, (.box 40 (.tmp 0))⟩, ⟨(some 2), none, (.mv (.const (.bool false)))⟩]) (.seq (.reg [⟨(some 3), none, (.load 3 true (.tmp 1))⟩, ⟨(some 4), none, (.callf (.func 33) [(.tmp 3)])⟩, ⟨(some 5), none, (.bin .lss (.tmp 4) (.const (.int .i64 (0))))⟩, ⟨(some 2), none, (.mv (.tmp 5))⟩]) .ret))
theorem cc122 : ccode Try.prog [] (Try.f122.body.getD .skip) = some c122 := by kernel_rfl
theorem body122 : Try.f122.body = some (Try.f122.body.getD .skip) := rfl

theorem does1_C (r : RR) (L : Nat) (h : Fits r L) (hL : L ≤ 1000000) : PureC Try.prog 122 [aR r] (.ret (aB (belowB r))) := by
  have hs := rsign_C r (h.mono (by omega))
  rw [← sgn_below]
  generalize sgn r.top = s at *
  refine pureC_of (rs := [(RV.tmp 2)]) Try.func122 (fun a w => Try.call122 a w) body122 cc122 (by kernel_rfl) ?_
  rw [Try.ntmps122]
  simp only [frs, Nat.reduceAdd, Nat.reduceSub]
  repeat (first | (with_reducible first | refine Way.imp ?_ | refine blk_o rfl ?_) | ((with_reducible refine WayR.imp (fun K hK => ?_)); simp (disch := first | omega | (simp only [dls]; omega)) only [std, reduceIte, reduceCtorEq, Int.reduceToNat, Nat.reduceAdd, Nat.reduceSub, Nat.reduceMul, Int.reduceAdd, Int.reduceSub, Int.reduceMul, Int.reduceNeg, fU]; subst hK) | refine zcA (hs) rfl rfl rfl ?_)
  exact ⟨_, rfl, rfl⟩

/-- Numbers fit a problem. -/
def doesTo (p : PB) (x : VV) (k : Nat) : Bool := (List.range k).all fun i => decide (dotV (mAt p.A i) x = qAt p.B i)
theorem doesTo_succ (p : PB) (x : VV) (k : Nat) : doesTo p x (k + 1) = (doesTo p x k && decide (dotV (mAt p.A k) x = qAt p.B k)) := by unfold doesTo; rw [List.range_succ, List.all_append]; simp
theorem doesTo_false {p : PB} {x : VV} {k n : Nat} (hk : k < n) (h : dotV (mAt p.A k) x ≠ qAt p.B k) : doesTo p x n = false := by
  unfold doesTo
  rw [List.all_eq_false]
  exact ⟨k, List.mem_range.2 hk, by simpa using h⟩
def doesB (p : PB) (x : VV) : Bool := rightB p && (decide ((osl x).length = (osl p.C).length) && (!anyI (pAt belowB x) (osl x).length && doesTo p x (osl p.A).length))
def FitsP (p : PB) (n L : Nat) : Prop := FitsM p.A n L ∧ FitsV p.B n L ∧ FitsV p.C n L

theorem cmp_eq (q : Rat) : cmpQ q q = 0 := by
  unfold cmpQ
  rw [if_neg (by grind), if_neg (by grind)]
theorem cmpQ_ne {a b : Rat} (h : a ≠ b) : cmpQ a b ≠ 0 := by
  intro e
  have := cmpQ_zero a b
  rw [e, decide_eq_false h] at this
  cases this

abbrev c69_k1 : CC := (.seq (.reg [⟨(some 4), none, (.mv (.const (.bool true)))⟩]) .ret)
abbrev c69_b1 : CC := (.seq (.reg [⟨(some 28), none, (.bin .lss (.tmp 27) (.tmp 26))⟩]) (.seq (.cond (.tmp 28) .skip (.exit 0)) (.seq (.block 1 (.seq (.reg [⟨(some 29), none, (.mv (.tmp 27))⟩, ⟨(some 30), none, (.iaddr 1 none (.tmp 25) (.tmp 27))⟩, ⟨(some 31), none, (.load 1 false (.tmp 30))⟩, ⟨(some 6), none, (.mv (.tmp 29))⟩, ⟨(some 7), none, (.mv (.tmp 31))⟩]) (.seq (.reg [⟨(some 32), none, (.mv (.tmp 7))⟩, ⟨(some 33), none, (.mv (.tmp 1))⟩, ⟨(some 34), none, (.callf (.func 41) [(.tmp 32), (.tmp 33)])⟩, ⟨(some 35), none, (.faddr 1 (.tmp 2))⟩, ⟨(some 36), none, (.load 1 false (.tmp 35))⟩, ⟨(some 37), none, (.mv (.tmp 6))⟩, ⟨(some 38), none, (.iaddr 3 none (.tmp 36) (.tmp 37))⟩, ⟨(some 39), none, (.load 3 true (.tmp 38))⟩, ⟨(some 40), none, (.callf (.func 46) [(.tmp 34), (.tmp 39)])⟩, ⟨(some 41), none, (.bin .neq (.tmp 40) (.const (.int .i64 (0))))⟩]) (.cond (.tmp 41) (.seq (.reg [⟨(some 4), none, (.mv (.const (.bool false)))⟩]) .ret) .skip)))) (.reg [⟨(some 42), none, (.bin .add (.tmp 27) (.const (.int .i64 (1))))⟩, ⟨(some 27), none, (.mv (.tmp 42))⟩]))))
abbrev c69 : CC := (.seq (.reg [⟨(some 2), none, (.box 86 (.tmp 0))⟩, ⟨(some 4), none, (.mv (.const (.bool false)))⟩]) (.seq (.reg [⟨(some 5), none, (.mv (.func 122))⟩]) (.seq (.seq (.reg [⟨(some 8), none, (.load 3 true (.tmp 2))⟩, ⟨(some 9), none, (.callf (.func 70) [(.tmp 8)])⟩, ⟨(some 10), none, (.un .not (.tmp 9))⟩, ⟨(some 11), none, (.mv (.tmp 10))⟩, ⟨(some 12), (some (11, false)), (.mv (.tmp 1))⟩, ⟨(some 13), (some (11, false)), (.len false (.tmp 12))⟩, ⟨(some 14), (some (11, false)), (.faddr 2 (.tmp 2))⟩, ⟨(some 15), (some (11, false)), (.load 1 false (.tmp 14))⟩, ⟨(some 16), (some (11, false)), (.len false (.tmp 15))⟩, ⟨(some 17), (some (11, false)), (.bin .neq (.tmp 13) (.tmp 16))⟩, ⟨(some 18), none, (.pick (.tmp 11) (.const (.bool true)) (.tmp 17))⟩, ⟨(some 19), none, (.mv (.tmp 18))⟩, ⟨(some 20), (some (19, false)), (.mv (.tmp 1))⟩, ⟨(some 21), (some (19, false)), (.mv (.tmp 5))⟩, ⟨(some 22), (some (19, false)), (.callf (.func 111) [(.tmp 20), (.tmp 21)])⟩, ⟨(some 23), none, (.pick (.tmp 19) (.const (.bool true)) (.tmp 22))⟩]) (.cond (.tmp 23) (.seq (.reg [⟨(some 4), none, (.mv (.const (.bool false)))⟩]) .ret) .skip)) (.seq (.seq (.reg [⟨(some 24), none, (.faddr 0 (.tmp 2))⟩, ⟨(some 25), none, (.load 1 false (.tmp 24))⟩, ⟨(some 26), none, (.len false (.tmp 25))⟩, ⟨(some 27), none, (.mv (.const (.int .i64 (0))))⟩]) (.block 0 (.loop c69_b1))) c69_k1))))
theorem cc69 : ccode Try.prog [] (Try.f69.body.getD .skip) = some c69 := by kernel_rfl
theorem body69 : Try.f69.body = some (Try.f69.body.getD .skip) := rfl

theorem does_C (p : PB) (x : VV) (n L : Nat) (hp : FitsP p n L) (hx : FitsV x n L) (hn : n ≤ 1000) (hL : 1 ≤ L) (hL2 : L ≤ 2000) : PureC Try.prog 69 [aP p, aV x] (.ret (aB (doesB p x))) := by
  have hr := sright_C p
  have hx1 := hx.1
  have hA1 := hp.1.1
  have hB1 := hp.2.1.1
  unfold doesB
  cases c1 : rightB p with
  | false =>
    rw [c1] at hr
    refine pureC_of (rs := [(RV.tmp 4)]) Try.func69 (fun a w => Try.call69 a w) body69 cc69 (by kernel_rfl) ?_
    rw [Try.ntmps69]
    simp only [frs, Nat.reduceAdd, Nat.reduceSub]
    repeat (first | (with_reducible first | refine Way.imp ?_ | refine blk_o rfl ?_) | ((with_reducible refine WayR.imp (fun K hK => ?_)); simp (disch := first | omega | (simp only [dls]; omega)) only [std, reduceIte, reduceCtorEq, Int.reduceToNat, Nat.reduceAdd, Nat.reduceSub, Nat.reduceMul, Int.reduceAdd, Int.reduceSub, Int.reduceMul, Int.reduceNeg, fU]; subst hK) | refine zcA (hr) rfl rfl rfl ?_)
    exact ⟨_, rfl, rfl⟩
  | true =>
    have c1' := c1
    rw [c1] at hr
    rw [Bool.true_and]
    unfold rightB at c1'
    simp only [Bool.and_eq_true, decide_eq_true_eq] at c1'
    have hBA := c1'.2.2.1
    by_cases c2 : (osl x).length = (osl p.C).length
    case neg =>
      rw [decide_eq_false c2, Bool.false_and]
      refine pureC_of (rs := [(RV.tmp 4)]) Try.func69 (fun a w => Try.call69 a w) body69 cc69 (by kernel_rfl) ?_
      rw [Try.ntmps69]
      simp only [frs, Nat.reduceAdd, Nat.reduceSub]
      repeat (first | (with_reducible first | refine Way.imp ?_ | refine blk_o rfl ?_) | ((with_reducible refine WayR.imp (fun K hK => ?_)); simp (disch := first | omega | (simp only [dls]; omega)) only [std, reduceIte, reduceCtorEq, Int.reduceToNat, Nat.reduceAdd, Nat.reduceSub, Nat.reduceMul, Int.reduceAdd, Int.reduceSub, Int.reduceMul, Int.reduceNeg, fU]; subst hK) | refine zcA (hr) rfl rfl rfl ?_)
      exact ⟨_, rfl, rfl⟩
    have hc := conR_C x 122 belowB (by omega) (fun r hr => does1_C r L (hx.2 r hr) (by omega))
    rw [decide_eq_true c2, Bool.true_and]
    cases c3 : anyI (pAt belowB x) (osl x).length with
    | true =>
      rw [c3] at hc
      refine pureC_of (rs := [(RV.tmp 4)]) Try.func69 (fun a w => Try.call69 a w) body69 cc69 (by kernel_rfl) ?_
      rw [Try.ntmps69]
      simp only [frs, Nat.reduceAdd, Nat.reduceSub]
      repeat (first | (with_reducible first | refine Way.imp ?_ | refine blk_o rfl ?_) | ((with_reducible refine WayR.imp (fun K hK => ?_)); simp (disch := first | omega | (simp only [dls]; omega)) only [std, reduceIte, reduceCtorEq, Int.reduceToNat, Nat.reduceAdd, Nat.reduceSub, Nat.reduceMul, Int.reduceAdd, Int.reduceSub, Int.reduceMul, Int.reduceNeg, fU, c2]; subst hK) | refine zcA (hr) rfl rfl rfl ?_ | (apply call_any_g (hc) rfl; (case hg => simp (disch := first | omega | (simp only [dls]; omega)) only [std, reduceIte, reduceCtorEq, Int.reduceToNat, Nat.reduceAdd, Nat.reduceSub, Nat.reduceMul, Int.reduceAdd, Int.reduceSub, Int.reduceMul, Int.reduceNeg, fU, c2]); (case hcl => (simp only [evs, St.ev, constAV, evl]; (repeat (first | exact closeAVs_nil | (apply closeAVs_cons; (first | (refine close_own3 rfl (by decide)) | (refine close_ownO rfl (by decide) ?_; assumption) | rfl)))); done)); (case hu => rfl)))
      exact ⟨_, rfl, rfl⟩
    | false =>
      rw [c3] at hc
      rw [Bool.not_false, Bool.true_and]
      refine pureC_of (rs := [(RV.tmp 4)]) Try.func69 (fun a w => Try.call69 a w) body69 cc69 (by kernel_rfl) ?_
      rw [Try.ntmps69]
      simp only [frs, Nat.reduceAdd, Nat.reduceSub]
      repeat (first | (with_reducible first | refine Way.imp ?_ | refine blk_o rfl ?_) | ((with_reducible refine WayR.imp (fun K hK => ?_)); simp (disch := first | omega | (simp only [dls]; omega)) only [std, reduceIte, reduceCtorEq, Int.reduceToNat, Nat.reduceAdd, Nat.reduceSub, Nat.reduceMul, Int.reduceAdd, Int.reduceSub, Int.reduceMul, Int.reduceNeg, fU, c2]; subst hK) | refine zcA (hr) rfl rfl rfl ?_ | (apply call_any_g (hc) rfl; (case hg => simp (disch := first | omega | (simp only [dls]; omega)) only [std, reduceIte, reduceCtorEq, Int.reduceToNat, Nat.reduceAdd, Nat.reduceSub, Nat.reduceMul, Int.reduceAdd, Int.reduceSub, Int.reduceMul, Int.reduceNeg, fU, c2]); (case hcl => (simp only [evs, St.ev, constAV, evl]; (repeat (first | exact closeAVs_nil | (apply closeAVs_cons; (first | (refine close_own3 rfl (by decide)) | (refine close_ownO rfl (by decide) ?_; assumption) | rfl)))); done)); (case hu => rfl)))
      refine awp_loop (fun (zz : Nat) => ⟨(.junk :: aV x :: .one (.ptr 0 0 0 0) :: .junk :: .junk :: .junk :: .junk :: .junk :: .junk :: .junk :: .junk :: .junk :: .junk :: .junk :: .junk :: .junk :: .junk :: .junk :: .junk :: .junk :: .junk :: .junk :: .junk :: .junk :: .junk :: aM p.A :: aI (osl p.A).length :: aI zz :: .junk :: .junk :: .junk :: .junk :: .junk :: .junk :: .junk :: .junk :: .junk :: .junk :: .junk :: .junk :: .junk :: .junk :: .junk :: []), [⟨0, 86, 3, [[.c (encSl 1 fM p.A), .c (vr p.B), .c (vr p.C)]], true, true⟩]⟩) (fun (zz : Nat) => zz ≤ (osl p.A).length ∧ doesTo p x zz = true) (fun (zz : Nat) => (osl p.A).length - zz) (0) ?hI3 (Fgt.head (Nat.zero_le 1) [false, true, true, false, false, false, false, false, false, false, false, false, false, false, false, false, false, false, false, false, false, false, false, false, false, true, true, true] ?hT3 ?hH3) ?hB3
      case hT3 => first | (simp (disch := omega) only [hds, liveT, cleanAV, cleanCell, clean1, cleanBlk, reduceIte, Int.reduceSub, Int.reduceAdd, Int.reduceNeg]; done) | rfl
      case hH3 => first | (simp (disch := omega) only [hds, liveT, cleanAV, cleanCell, clean1, cleanBlk, reduceIte, Int.reduceSub, Int.reduceAdd, Int.reduceNeg]; done) | rfl
      · exact ⟨Nat.zero_le _, rfl⟩
      rintro i ⟨hi, hs⟩
      by_cases him : i = (osl p.A).length
      · rw [← him, hs]
        repeat (first | (with_reducible first | refine Way.imp ?_ | refine blk_o rfl ?_) | ((with_reducible refine WayR.imp (fun K hK => ?_)); simp (disch := first | omega | (simp only [dls]; omega)) only [std, reduceIte, reduceCtorEq, Int.reduceToNat, Nat.reduceAdd, Nat.reduceSub, Nat.reduceMul, Int.reduceAdd, Int.reduceSub, Int.reduceMul, Int.reduceNeg, fU]; subst hK))
        exact ⟨_, rfl, rfl⟩
      · have hlt : i < (osl p.A).length := by omega
        have hltB : i < (osl p.B).length := by omega
        have hrf := hp.1.2 _ (List.getElem_mem hlt)
        have hd := dot_C (osl p.A)[i] x n L hrf hx hn hL hL2
        have hfd := fits_dot hrf hx hL
        have hfb := hp.2.1.2 _ (List.getElem_mem hltB)
        have hnL : n * (2 * L + 1) ≤ 1000 * 4001 := Nat.mul_le_mul hn (by omega)
        have hcm := rcompare_C (rawQ (dotV (osl p.A)[i] x)) (osl p.B)[i] ((fits_rawQ hfd).mono (by omega)) (hfb.mono (by omega))
        rw [rawQ_val] at hcm
        have hqb : qAt p.B i = (osl p.B)[i].val := by unfold qAt; rw [rAt_in hltB]
        by_cases he : dotV (osl p.A)[i] x = (osl p.B)[i].val
        · rw [he, cmp_eq] at hcm
          rw [he] at hd
          repeat (first | (with_reducible first | refine Way.imp ?_ | refine blk_o rfl ?_) | ((with_reducible refine WayR.imp (fun K hK => ?_)); simp (disch := first | omega | (simp only [dls]; omega)) only [std, reduceIte, reduceCtorEq, Int.reduceToNat, Nat.reduceAdd, Nat.reduceSub, Nat.reduceMul, Int.reduceAdd, Int.reduceSub, Int.reduceMul, Int.reduceNeg, fU, fM, fR]; subst hK) | refine zcA (hd) rfl rfl rfl ?_ | refine zcA (hcm) rfl rfl rfl ?_)
          refine ⟨(i + 1), ?hI4, ?hM4, Fgt.head (Nat.zero_le 1) [false, true, true, false, false, false, false, false, false, false, false, false, false, false, false, false, false, false, false, false, false, false, false, false, false, true, true, true] ?hT4 ?hH4⟩
          case hT4 => first | (simp (disch := omega) only [hds, liveT, cleanAV, cleanCell, clean1, cleanBlk, reduceIte, Int.reduceSub, Int.reduceAdd, Int.reduceNeg]; done) | rfl
          case hH4 => first | (simp (disch := omega) only [hds, liveT, cleanAV, cleanCell, clean1, cleanBlk, reduceIte, Int.reduceSub, Int.reduceAdd, Int.reduceNeg]; done) | rfl
          · exact ⟨Nat.succ_le_of_lt hlt, by rw [doesTo_succ, hs, mAt_in hlt, hqb, he]; simp⟩
          · show (osl p.A).length - (i + 1) < (osl p.A).length - i; omega
        · have hne := cmpQ_ne he
          rw [doesTo_false hlt (by rw [mAt_in hlt, hqb]; exact he)]
          generalize cmpQ (dotV (osl p.A)[i] x) (osl p.B)[i].val = z at *
          repeat (first | (with_reducible first | refine Way.imp ?_ | refine blk_o rfl ?_) | ((with_reducible refine WayR.imp (fun K hK => ?_)); simp (disch := first | omega | (simp only [dls]; omega)) only [std, reduceIte, reduceCtorEq, Int.reduceToNat, Nat.reduceAdd, Nat.reduceSub, Nat.reduceMul, Int.reduceAdd, Int.reduceSub, Int.reduceMul, Int.reduceNeg, fU, fM, fR]; subst hK) | refine zcA (hd) rfl rfl rfl ?_ | refine zcA (hcm) rfl rfl rfl ?_)
          exact ⟨_, rfl, rfl⟩

end Go.Proofs.Ytdhkdnmefeeclaa
