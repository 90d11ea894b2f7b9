/- Walks of stock: Right. -/
import Derived.Test.YtdhkdnmefeeclaaA5
import Derived.Test.YtdhkdnmefeeclaaB0
import Derived.Test.YtdhkdnmefeeclaaVK
set_option linter.unusedSimpArgs false
set_option linter.unusedVariables false
set_option linter.unnecessarySimpa false
set_option linter.unusedSimpArgs false
set_option linter.unusedVariables false
set_option maxRecDepth 100000
set_option maxHeartbeats 4000000
namespace Go.Proofs.Ytdhkdnmefeeclaa
open Go Go.Am Go.Proofs Go.RowKit Go.Off

structure Itm where
  width : Int
  need : Int
def fItm (i : Itm) : List CV := [.val (.int .i64 i.width), .val (.int .i64 i.need)]
structure ST where
  roll : Int
  items : Option (List Itm)
abbrev aSt (s : ST) : AV := .agg [.c (.val (.int .i64 s.roll)), .c (encSl 2 fItm s.items)]
abbrev aIt (i : Itm) : AV := .agg [.c (.val (.int .i64 i.width)), .c (.val (.int .i64 i.need))]
def itAt (s : ST) (k : Nat) : Itm := (osl s.items).getD k ⟨0, 0⟩
theorem itAt_in {s : ST} {k : Nat} (h : k < (osl s.items).length) : itAt s k = (osl s.items)[k] := by
  unfold itAt; rw [List.getD_eq_getElem?_getD, List.getElem?_eq_getElem h]; rfl
def inB (n a b : Int) : Bool := decide (a ≤ n) && decide (n ≤ b)

abbrev c172 : CC := (.seq (.reg [⟨(some 6), none, (.mv (.const (.bool false)))⟩]) (.seq (.reg [⟨(some 7), none, (.mv (.tmp 0))⟩, ⟨(some 8), none, (.mv (.tmp 1))⟩, ⟨(some 9), none, (.bin .geq (.tmp 7) (.tmp 8))⟩, ⟨(some 10), none, (.mv (.tmp 9))⟩, ⟨(some 11), (some (10, true)), (.mv (.tmp 0))⟩, ⟨(some 12), (some (10, true)), (.mv (.tmp 2))⟩, ⟨(some 13), (some (10, true)), (.bin .leq (.tmp 11) (.tmp 12))⟩, ⟨(some 14), none, (.pick (.tmp 10) (.tmp 13) (.const (.bool false)))⟩, ⟨(some 6), none, (.mv (.tmp 14))⟩]) .ret))
theorem cc172 : ccode Try.prog [] (Try.f172.body.getD .skip) = some c172 := by kernel_rfl
theorem body172 : Try.f172.body = some (Try.f172.body.getD .skip) := rfl

theorem in_C (n a b : Int) : PureC Try.prog 172 [aI n, aI a, aI b] (.ret (aB (inB n a b))) := by
  unfold inB
  by_cases h1 : a ≤ n
  · rw [decide_eq_true h1, Bool.true_and]
    by_cases h2 : n ≤ b
    · rw [decide_eq_true h2]
      refine pureC_of (rs := [(RV.tmp 6)]) Try.func172 (fun a w => Try.call172 a w) body172 cc172 (by kernel_rfl) ?_
      rw [Try.ntmps172]
      simp only [frs, Nat.reduceAdd, Nat.reduceSub]
      repeat (first | (with_reducible first | refine Way.imp ?_ | refine blk_o rfl ?_) | ((with_reducible refine WayR.imp (fun K hK => ?_)); simp (disch := first | omega | (simp only [dls]; omega)) only [std, reduceIte, reduceCtorEq, Int.reduceToNat, Nat.reduceAdd, Nat.reduceSub, Nat.reduceMul, Int.reduceAdd, Int.reduceSub, Int.reduceMul, Int.reduceNeg, fU]; subst hK))
      exact ⟨_, rfl, rfl⟩
    · rw [decide_eq_false h2]
      refine pureC_of (rs := [(RV.tmp 6)]) Try.func172 (fun a w => Try.call172 a w) body172 cc172 (by kernel_rfl) ?_
      rw [Try.ntmps172]
      simp only [frs, Nat.reduceAdd, Nat.reduceSub]
      repeat (first | (with_reducible first | refine Way.imp ?_ | refine blk_o rfl ?_) | ((with_reducible refine WayR.imp (fun K hK => ?_)); simp (disch := first | omega | (simp only [dls]; omega)) only [std, reduceIte, reduceCtorEq, Int.reduceToNat, Nat.reduceAdd, Nat.reduceSub, Nat.reduceMul, Int.reduceAdd, Int.reduceSub, Int.reduceMul, Int.reduceNeg, fU]; subst hK))
      exact ⟨_, rfl, rfl⟩
  · rw [decide_eq_false h1, Bool.false_and]
    refine pureC_of (rs := [(RV.tmp 6)]) Try.func172 (fun a w => Try.call172 a w) body172 cc172 (by kernel_rfl) ?_
    rw [Try.ntmps172]
    simp only [frs, Nat.reduceAdd, Nat.reduceSub]
    repeat (first | (with_reducible first | refine Way.imp ?_ | refine blk_o rfl ?_) | ((with_reducible refine WayR.imp (fun K hK => ?_)); simp (disch := first | omega | (simp only [dls]; omega)) only [std, reduceIte, reduceCtorEq, Int.reduceToNat, Nat.reduceAdd, Nat.reduceSub, Nat.reduceMul, Int.reduceAdd, Int.reduceSub, Int.reduceMul, Int.reduceNeg, fU]; subst hK))
    exact ⟨_, rfl, rfl⟩

def itemB (i : Itm) : Bool := inB i.width 1 1048576 && inB i.need 0 1024
abbrev c171 : CC := (.seq (.reg [⟨(some 1), none, (.box 121 (.tmp 0))⟩, ⟨(some 2), none, (.mv (.const (.bool false)))⟩]) (.seq (.reg [⟨(some 3), none, (.faddr 0 (.tmp 1))⟩, ⟨(some 4), none, (.load 1 false (.tmp 3))⟩, ⟨(some 5), none, (.callf (.func 172) [(.tmp 4), (.const (.int .i64 (1))), (.const (.int .i64 (1048576)))])⟩, ⟨(some 6), none, (.mv (.tmp 5))⟩, ⟨(some 7), (some (6, true)), (.faddr 1 (.tmp 1))⟩, ⟨(some 8), (some (6, true)), (.load 1 false (.tmp 7))⟩, ⟨(some 9), (some (6, true)), (.callf (.func 172) [(.tmp 8), (.const (.int .i64 (0))), (.const (.int .i64 (1024)))])⟩, ⟨(some 10), none, (.pick (.tmp 6) (.tmp 9) (.const (.bool false)))⟩, ⟨(some 2), none, (.mv (.tmp 10))⟩]) .ret))
theorem cc171 : ccode Try.prog [] (Try.f171.body.getD .skip) = some c171 := by kernel_rfl
theorem body171 : Try.f171.body = some (Try.f171.body.getD .skip) := rfl

theorem item_C (i : Itm) : PureC Try.prog 171 [aIt i] (.ret (aB (itemB i))) := by
  have h1 := in_C i.width 1 1048576
  have h2 := in_C i.need 0 1024
  unfold itemB
  cases c1 : inB i.width 1 1048576 with
  | false =>
    rw [c1] at h1
    refine pureC_of (rs := [(RV.tmp 2)]) Try.func171 (fun a w => Try.call171 a w) body171 cc171 (by kernel_rfl) ?_
    rw [Try.ntmps171]
    simp only [frs, Nat.reduceAdd, Nat.reduceSub]
    repeat (first | (with_reducible first | refine Way.imp ?_ | refine blk_o rfl ?_) | ((with_reducible refine WayR.imp (fun K hK => ?_)); simp (disch := first | omega | (simp only [dls]; omega)) only [std, reduceIte, reduceCtorEq, Int.reduceToNat, Nat.reduceAdd, Nat.reduceSub, Nat.reduceMul, Int.reduceAdd, Int.reduceSub, Int.reduceMul, Int.reduceNeg, fU]; subst hK) | refine zcA (h1) rfl rfl rfl ?_)
    exact ⟨_, rfl, rfl⟩
  | true =>
    rw [c1] at h1
    rw [Bool.true_and]
    generalize inB i.need 0 1024 = z at *
    refine pureC_of (rs := [(RV.tmp 2)]) Try.func171 (fun a w => Try.call171 a w) body171 cc171 (by kernel_rfl) ?_
    rw [Try.ntmps171]
    simp only [frs, Nat.reduceAdd, Nat.reduceSub]
    repeat (first | (with_reducible first | refine Way.imp ?_ | refine blk_o rfl ?_) | ((with_reducible refine WayR.imp (fun K hK => ?_)); simp (disch := first | omega | (simp only [dls]; omega)) only [std, reduceIte, reduceCtorEq, Int.reduceToNat, Nat.reduceAdd, Nat.reduceSub, Nat.reduceMul, Int.reduceAdd, Int.reduceSub, Int.reduceMul, Int.reduceNeg, fU]; subst hK) | refine zcA (h1) rfl rfl rfl ?_ | (apply call_any_g (h2) rfl; (case hg => simp (disch := first | omega | (simp only [dls]; omega)) only [std, reduceIte, reduceCtorEq, Int.reduceToNat, Nat.reduceAdd, Nat.reduceSub, Nat.reduceMul, Int.reduceAdd, Int.reduceSub, Int.reduceMul, Int.reduceNeg, fU]); (case hcl => (simp only [evs, St.ev, constAV, evl]; (repeat (first | exact closeAVs_nil | (apply closeAVs_cons; (first | (refine close_own3 rfl (by decide)) | (refine close_ownO rfl (by decide) ?_; assumption) | rfl)))); done)); (case hu => rfl)))
    exact ⟨_, rfl, rfl⟩

abbrev c170 : CC := (.seq (.reg [⟨(some 1), none, (.box 121 (.tmp 0))⟩, ⟨(some 2), none, (.mv (.const (.bool false)))⟩]) (.seq (.reg [⟨(some 3), none, (.load 2 true (.tmp 1))⟩, ⟨(some 4), none, (.callf (.func 171) [(.tmp 3)])⟩, ⟨(some 5), none, (.un .not (.tmp 4))⟩, ⟨(some 2), none, (.mv (.tmp 5))⟩]) .ret))
theorem cc170 : ccode Try.prog [] (Try.f170.body.getD .skip) = some c170 := by kernel_rfl
theorem body170 : Try.f170.body = some (Try.f170.body.getD .skip) := rfl

theorem stright1_C (i : Itm) : PureC Try.prog 170 [aIt i] (.ret (aB (!itemB i))) := by
  have h1 := item_C i
  generalize itemB i = z at *
  refine pureC_of (rs := [(RV.tmp 2)]) Try.func170 (fun a w => Try.call170 a w) body170 cc170 (by kernel_rfl) ?_
  rw [Try.ntmps170]
  simp only [frs, Nat.reduceAdd, Nat.reduceSub]
  repeat (first | (with_reducible first | refine Way.imp ?_ | refine blk_o rfl ?_) | ((with_reducible refine WayR.imp (fun K hK => ?_)); simp (disch := first | omega | (simp only [dls]; omega)) only [std, reduceIte, reduceCtorEq, Int.reduceToNat, Nat.reduceAdd, Nat.reduceSub, Nat.reduceMul, Int.reduceAdd, Int.reduceSub, Int.reduceMul, Int.reduceNeg, fU]; subst hK) | refine zcA (h1) rfl rfl rfl ?_)
  exact ⟨_, rfl, rfl⟩

def itBad (s : ST) (k : Nat) : Bool := !itemB (itAt s k)
abbrev aSr1 : AV := .one (.fn 170 [])

abbrev c186_k1 : CC := (.seq (.reg [⟨(some 4), none, (.mv (.const (.int .i64 (-1))))⟩]) .ret)
abbrev c186_b1 : CC := (.seq (.reg [⟨(some 9), none, (.bin .lss (.tmp 8) (.tmp 7))⟩]) (.seq (.cond (.tmp 9) .skip (.exit 0)) (.seq (.block 1 (.seq (.reg [⟨(some 10), none, (.mv (.tmp 8))⟩, ⟨(some 5), none, (.mv (.tmp 10))⟩]) (.seq (.reg [⟨(some 11), none, (.mv (.tmp 1))⟩, ⟨(some 12), none, (.mv (.tmp 0))⟩, ⟨(some 13), none, (.mv (.tmp 5))⟩, ⟨(some 14), none, (.iaddr 2 none (.tmp 12) (.tmp 13))⟩, ⟨(some 15), none, (.load 2 true (.tmp 14))⟩, ⟨(some 16), none, (.callf (.tmp 11) [(.tmp 15)])⟩]) (.cond (.tmp 16) (.seq (.reg [⟨(some 17), none, (.mv (.tmp 5))⟩, ⟨(some 4), none, (.mv (.tmp 17))⟩]) .ret) .skip)))) (.reg [⟨(some 18), none, (.bin .add (.tmp 8) (.const (.int .i64 (1))))⟩, ⟨(some 8), none, (.mv (.tmp 18))⟩]))))
abbrev c186 : CC := (.seq (.reg [⟨(some 4), none, (.mv (.const (.int .i64 (0))))⟩]) (.seq (.seq (.reg [⟨(some 6), none, (.mv (.tmp 0))⟩, ⟨(some 7), none, (.len false (.tmp 6))⟩, ⟨(some 8), none, (.mv (.const (.int .i64 (0))))⟩]) (.block 0 (.loop c186_b1))) c186_k1))
theorem cc186 : ccode Try.prog [] (Try.f186.body.getD .skip) = some c186 := by kernel_rfl
theorem body186 : Try.f186.body = some (Try.f186.body.getD .skip) := rfl

theorem idxI_C (s : ST) (hl : (osl s.items).length ≤ 1000000) :
    PureC Try.prog 186 [.one (.c (encSl 2 fItm s.items)), aSr1] (.ret (aI (fstI (itBad s) (osl s.items).length))) := by
  refine pureC_of (rs := [(RV.tmp 4)]) Try.func186 (fun a w => Try.call186 a w) body186 cc186 (by kernel_rfl) ?_
  rw [Try.ntmps186]
  simp only [frs, Nat.reduceAdd, Nat.reduceSub]
  repeat (first | (with_reducible first | refine Way.imp ?_ | refine blk_o rfl ?_) | ((with_reducible refine WayR.imp (fun K hK => ?_)); simp (disch := first | omega | (simp only [dls]; omega)) only [std, reduceIte, reduceCtorEq, Int.reduceToNat, Nat.reduceAdd, Nat.reduceSub, Nat.reduceMul, Int.reduceAdd, Int.reduceSub, Int.reduceMul, Int.reduceNeg, fU]; subst hK))
  refine awp_loop (fun (zz : Nat) => ⟨(.one (.c (encSl 2 fItm s.items)) :: aSr1 :: .junk :: .junk :: aI 0 :: .junk :: .one (.c (encSl 2 fItm s.items)) :: aI (osl s.items).length :: aI zz :: .junk :: .junk :: .junk :: .junk :: .junk :: .junk :: .junk :: .junk :: .junk :: .junk :: []), []⟩) (fun (zz : Nat) => zz ≤ (osl s.items).length ∧ anyI (itBad s) zz = false) (fun (zz : Nat) => (osl s.items).length - zz) (0) ?hI1 (Fgt.head (Nat.le_refl _) [true, true, false, false, true, false, true, true, true] ?hT1 ?hH1) ?hB1
  case hT1 => first | (simp (disch := omega) only [hds, liveT, cleanAV, cleanCell, clean1, cleanBlk, reduceIte, Int.reduceSub, Int.reduceAdd, Int.reduceNeg]; done) | rfl
  case hH1 => first | (simp (disch := omega) only [hds, liveT, cleanAV, cleanCell, clean1, cleanBlk, reduceIte, Int.reduceSub, Int.reduceAdd, Int.reduceNeg]; done) | rfl
  · exact ⟨Nat.zero_le _, rfl⟩
  rintro i ⟨hi, hs⟩
  by_cases him : i = (osl s.items).length
  · repeat (first | (with_reducible first | refine Way.imp ?_ | refine blk_o rfl ?_) | ((with_reducible refine WayR.imp (fun K hK => ?_)); simp (disch := first | omega | (simp only [dls]; omega)) only [std, reduceIte, reduceCtorEq, Int.reduceToNat, Nat.reduceAdd, Nat.reduceSub, Nat.reduceMul, Int.reduceAdd, Int.reduceSub, Int.reduceMul, Int.reduceNeg, fU]; subst hK))
    rw [fstI_none (by rw [← him]; exact hs)]
    exact ⟨_, rfl, rfl⟩
  · have hlt : i < (osl s.items).length := by omega
    have hz := stright1_C (osl s.items)[i]
    have hb : itBad s i = !itemB (osl s.items)[i] := by unfold itBad; rw [itAt_in hlt]
    cases he : itemB (osl s.items)[i] with
    | true =>
      rw [he] at hz hb
      repeat (first | (with_reducible first | refine Way.imp ?_ | refine blk_o rfl ?_) | ((with_reducible refine WayR.imp (fun K hK => ?_)); simp (disch := first | omega | (simp only [dls]; omega)) only [std, reduceIte, reduceCtorEq, Int.reduceToNat, Nat.reduceAdd, Nat.reduceSub, Nat.reduceMul, Int.reduceAdd, Int.reduceSub, Int.reduceMul, Int.reduceNeg, fU, fItm, Bool.not_true]; subst hK) | refine zcV (hz) rfl rfl rfl ?_)
      refine ⟨(i + 1), ?hI2, ?hM2, Fgt.head (Nat.le_refl _) [true, true, false, false, true, false, true, true, true] ?hT2 ?hH2⟩
      case hT2 => first | (simp (disch := omega) only [hds, liveT, cleanAV, cleanCell, clean1, cleanBlk, reduceIte, Int.reduceSub, Int.reduceAdd, Int.reduceNeg]; done) | rfl
      case hH2 => first | (simp (disch := omega) only [hds, liveT, cleanAV, cleanCell, clean1, cleanBlk, reduceIte, Int.reduceSub, Int.reduceAdd, Int.reduceNeg]; done) | rfl
      · exact ⟨Nat.succ_le_of_lt hlt, by rw [anyI_succ, hs, hb]; rfl⟩
      · show (osl s.items).length - (i + 1) < (osl s.items).length - i; omega
    | false =>
      rw [he] at hz hb
      repeat (first | (with_reducible first | refine Way.imp ?_ | refine blk_o rfl ?_) | ((with_reducible refine WayR.imp (fun K hK => ?_)); simp (disch := first | omega | (simp only [dls]; omega)) only [std, reduceIte, reduceCtorEq, Int.reduceToNat, Nat.reduceAdd, Nat.reduceSub, Nat.reduceMul, Int.reduceAdd, Int.reduceSub, Int.reduceMul, Int.reduceNeg, fU, fItm, Bool.not_false]; subst hK) | refine zcV (hz) rfl rfl rfl ?_)
      rw [fstI_some hlt hs hb]
      exact ⟨_, rfl, rfl⟩

abbrev c173 : CC := (.seq (.reg [⟨(some 4), none, (.mv (.const (.bool false)))⟩]) (.seq (.reg [⟨(some 5), none, (.mv (.tmp 0))⟩, ⟨(some 6), none, (.mv (.tmp 1))⟩, ⟨(some 7), none, (.callf (.func 186) [(.tmp 5), (.tmp 6)])⟩, ⟨(some 8), none, (.bin .geq (.tmp 7) (.const (.int .i64 (0))))⟩, ⟨(some 4), none, (.mv (.tmp 8))⟩]) .ret))
theorem cc173 : ccode Try.prog [] (Try.f173.body.getD .skip) = some c173 := by kernel_rfl
theorem body173 : Try.f173.body = some (Try.f173.body.getD .skip) := rfl

theorem conI_C (s : ST) (hl : (osl s.items).length ≤ 1000000) :
    PureC Try.prog 173 [.one (.c (encSl 2 fItm s.items)), aSr1] (.ret (aB (anyI (itBad s) (osl s.items).length))) := by
  have hx := idxI_C s hl
  rw [← fstI_any]
  generalize fstI (itBad s) (osl s.items).length = k at *
  refine pureC_of (rs := [(RV.tmp 4)]) Try.func173 (fun a w => Try.call173 a w) body173 cc173 (by kernel_rfl) ?_
  rw [Try.ntmps173]
  simp only [frs, Nat.reduceAdd, Nat.reduceSub]
  repeat (first | (with_reducible first | refine Way.imp ?_ | refine blk_o rfl ?_) | ((with_reducible refine WayR.imp (fun K hK => ?_)); simp (disch := first | omega | (simp only [dls]; omega)) only [std, reduceIte, reduceCtorEq, Int.reduceToNat, Nat.reduceAdd, Nat.reduceSub, Nat.reduceMul, Int.reduceAdd, Int.reduceSub, Int.reduceMul, Int.reduceNeg, fU]; subst hK) | refine zcA (hx) rfl rfl rfl ?_)
  exact ⟨_, rfl, rfl⟩

def rightS (s : ST) : Bool := inB s.roll 1 1048576 && (decide ((osl s.items).length ≤ 60) && !anyI (itBad s) (osl s.items).length)
abbrev c132 : CC := (.seq (.reg [⟨(some 1), none, (.box 110 (.tmp 0))⟩, ⟨(some 2), none, (.mv (.const (.bool false)))⟩]) (.seq (.reg [⟨(some 3), none, (.mv (.func 170))⟩]) (.seq (.reg [⟨(some 4), none, (.faddr 0 (.tmp 1))⟩, ⟨(some 5), none, (.load 1 false (.tmp 4))⟩, ⟨(some 6), none, (.callf (.func 172) [(.tmp 5), (.const (.int .i64 (1))), (.const (.int .i64 (1048576)))])⟩, ⟨(some 7), none, (.mv (.tmp 6))⟩, ⟨(some 8), (some (7, true)), (.faddr 1 (.tmp 1))⟩, ⟨(some 9), (some (7, true)), (.load 1 false (.tmp 8))⟩, ⟨(some 10), (some (7, true)), (.len false (.tmp 9))⟩, ⟨(some 11), (some (7, true)), (.bin .leq (.tmp 10) (.const (.int .i64 (60))))⟩, ⟨(some 12), none, (.pick (.tmp 7) (.tmp 11) (.const (.bool false)))⟩, ⟨(some 13), none, (.mv (.tmp 12))⟩, ⟨(some 14), (some (13, true)), (.faddr 1 (.tmp 1))⟩, ⟨(some 15), (some (13, true)), (.load 1 false (.tmp 14))⟩, ⟨(some 16), (some (13, true)), (.mv (.tmp 3))⟩, ⟨(some 17), (some (13, true)), (.callf (.func 173) [(.tmp 15), (.tmp 16)])⟩, ⟨(some 18), (some (13, true)), (.un .not (.tmp 17))⟩, ⟨(some 19), none, (.pick (.tmp 13) (.tmp 18) (.const (.bool false)))⟩, ⟨(some 2), none, (.mv (.tmp 19))⟩]) .ret)))
theorem cc132 : ccode Try.prog [] (Try.f132.body.getD .skip) = some c132 := by kernel_rfl
theorem body132 : Try.f132.body = some (Try.f132.body.getD .skip) := rfl

theorem stright_C (s : ST) : PureC Try.prog 132 [aSt s] (.ret (aB (rightS s))) := by
  have h1 := in_C s.roll 1 1048576
  unfold rightS
  cases c1 : inB s.roll 1 1048576 with
  | false =>
    rw [c1] at h1
    refine pureC_of (rs := [(RV.tmp 2)]) Try.func132 (fun a w => Try.call132 a w) body132 cc132 (by kernel_rfl) ?_
    rw [Try.ntmps132]
    simp only [frs, Nat.reduceAdd, Nat.reduceSub]
    repeat (first | (with_reducible first | refine Way.imp ?_ | refine blk_o rfl ?_) | ((with_reducible refine WayR.imp (fun K hK => ?_)); simp (disch := first | omega | (simp only [dls]; omega)) only [std, reduceIte, reduceCtorEq, Int.reduceToNat, Nat.reduceAdd, Nat.reduceSub, Nat.reduceMul, Int.reduceAdd, Int.reduceSub, Int.reduceMul, Int.reduceNeg, fU]; subst hK) | refine zcA (h1) rfl rfl rfl ?_)
    exact ⟨_, rfl, rfl⟩
  | true =>
    rw [c1] at h1
    rw [Bool.true_and]
    by_cases h2 : (osl s.items).length ≤ 60
    · have hc := conI_C s (by omega)
      rw [decide_eq_true h2, Bool.true_and]
      generalize anyI (itBad s) (osl s.items).length = z at *
      refine pureC_of (rs := [(RV.tmp 2)]) Try.func132 (fun a w => Try.call132 a w) body132 cc132 (by kernel_rfl) ?_
      rw [Try.ntmps132]
      simp only [frs, Nat.reduceAdd, Nat.reduceSub]
      repeat (first | (with_reducible first | refine Way.imp ?_ | refine blk_o rfl ?_) | ((with_reducible refine WayR.imp (fun K hK => ?_)); simp (disch := first | omega | (simp only [dls]; omega)) only [std, reduceIte, reduceCtorEq, Int.reduceToNat, Nat.reduceAdd, Nat.reduceSub, Nat.reduceMul, Int.reduceAdd, Int.reduceSub, Int.reduceMul, Int.reduceNeg, fU]; subst hK) | refine zcA (h1) rfl rfl rfl ?_ | (apply call_any_g (hc) rfl; (case hg => simp (disch := first | omega | (simp only [dls]; omega)) only [std, reduceIte, reduceCtorEq, Int.reduceToNat, Nat.reduceAdd, Nat.reduceSub, Nat.reduceMul, Int.reduceAdd, Int.reduceSub, Int.reduceMul, Int.reduceNeg, fU]); (case hcl => (simp only [evs, St.ev, constAV, evl]; (repeat (first | exact closeAVs_nil | (apply closeAVs_cons; (first | (refine close_own3 rfl (by decide)) | (refine close_ownO rfl (by decide) ?_; assumption) | rfl)))); done)); (case hu => rfl)))
      exact ⟨_, rfl, rfl⟩
    · rw [decide_eq_false h2, Bool.false_and]
      refine pureC_of (rs := [(RV.tmp 2)]) Try.func132 (fun a w => Try.call132 a w) body132 cc132 (by kernel_rfl) ?_
      rw [Try.ntmps132]
      simp only [frs, Nat.reduceAdd, Nat.reduceSub]
      repeat (first | (with_reducible first | refine Way.imp ?_ | refine blk_o rfl ?_) | ((with_reducible refine WayR.imp (fun K hK => ?_)); simp (disch := first | omega | (simp only [dls]; omega)) only [std, reduceIte, reduceCtorEq, Int.reduceToNat, Nat.reduceAdd, Nat.reduceSub, Nat.reduceMul, Int.reduceAdd, Int.reduceSub, Int.reduceMul, Int.reduceNeg, fU]; subst hK) | refine zcA (h1) rfl rfl rfl ?_)
      exact ⟨_, rfl, rfl⟩

structure RtS (s : ST) : Prop where
  roll : 1 ≤ s.roll ∧ s.roll ≤ 1048576
  len : (osl s.items).length ≤ 60
  item : ∀ i, i < (osl s.items).length → (1 ≤ (itAt s i).width ∧ (itAt s i).width ≤ 1048576) ∧ (0 ≤ (itAt s i).need ∧ (itAt s i).need ≤ 1024)
theorem rtS_of {s : ST} (h : rightS s = true) : RtS s := by
  unfold rightS inB at h
  simp only [Bool.and_eq_true, decide_eq_true_eq] at h
  obtain ⟨h1, h2, h3⟩ := h
  have h3' : anyI (itBad s) (osl s.items).length = false := by simpa using h3
  refine ⟨h1, h2, fun i hi => ?_⟩
  have := anyI_false h3' hi
  unfold itBad itemB inB at this
  simpa using this

end Go.Proofs.Ytdhkdnmefeeclaa
set_option linter.unusedSimpArgs false
set_option linter.unusedVariables false
set_option maxRecDepth 100000
set_option maxHeartbeats 4000000
namespace Go.Proofs.Ytdhkdnmefeeclaa
open Go Go.Am Go.Proofs Go.RowKit Go.Off

abbrev aTk (l : Option (List Int)) : AV := .one (.c (encSl 1 fI l))
def tkAt (t : Option (List Int)) (k : Nat) : Int := (osl t).getD k 0
theorem tkAt_in {t : Option (List Int)} {k : Nat} (h : k < (osl t).length) : tkAt t k = (osl t)[k] := by
  unfold tkAt; rw [List.getD_eq_getElem?_getD, List.getElem?_eq_getElem h]; rfl
def allK (q : Nat → Bool) (n : Nat) : Bool := (List.range n).all q
theorem allK_succ (q : Nat → Bool) (n : Nat) : allK q (n + 1) = (allK q n && q n) := by unfold allK; rw [List.range_succ, List.all_append]; simp
theorem allK_false {q : Nat → Bool} {k n : Nat} (hk : k < n) (h : q k = false) : allK q n = false := by
  unfold allK
  rw [List.all_eq_false]
  exact ⟨k, List.mem_range.2 hk, by simp [h]⟩
theorem allK_at {q : Nat → Bool} {k n : Nat} (h : allK q n = true) (hk : k < n) : q k = true := List.all_eq_true.1 h k (List.mem_range.2 hk)

def need7 (s : ST) (k : Nat) : Bool := decide ((itAt s k).need ≤ 7)
def fewS (s : ST) : Bool := allK (need7 s) (min (osl s.items).length 5) && decide ((osl s.items).length ≤ 4)
abbrev c81_k1 : CC := (.seq (.reg [⟨(some 22), none, (.faddr 1 (.tmp 1))⟩, ⟨(some 23), none, (.load 1 false (.tmp 22))⟩, ⟨(some 24), none, (.len false (.tmp 23))⟩, ⟨(some 25), none, (.bin .leq (.tmp 24) (.const (.int .i64 (4))))⟩, ⟨(some 2), none, (.mv (.tmp 25))⟩]) .ret)
abbrev c81_b1 : CC := (.seq (.seq (.reg [⟨(some 4), none, (.mv (.tmp 3))⟩, ⟨(some 5), none, (.faddr 1 (.tmp 1))⟩, ⟨(some 6), none, (.load 1 false (.tmp 5))⟩, ⟨(some 7), none, (.len false (.tmp 6))⟩, ⟨(some 8), none, (.bin .lss (.tmp 4) (.tmp 7))⟩, ⟨(some 9), none, (.mv (.tmp 8))⟩, ⟨(some 10), (some (9, true)), (.mv (.tmp 3))⟩, ⟨(some 11), (some (9, true)), (.bin .leq (.tmp 10) (.const (.int .i64 (4))))⟩, ⟨(some 12), none, (.pick (.tmp 9) (.tmp 11) (.const (.bool false)))⟩]) (.cond (.tmp 12) .skip (.exit 0))) (.seq (.block 1 (.seq (.reg [⟨(some 15), none, (.faddr 1 (.tmp 1))⟩, ⟨(some 16), none, (.load 1 false (.tmp 15))⟩, ⟨(some 17), none, (.mv (.tmp 3))⟩, ⟨(some 18), none, (.iaddr 2 none (.tmp 16) (.tmp 17))⟩, ⟨(some 19), none, (.faddr 1 (.tmp 18))⟩, ⟨(some 20), none, (.load 1 false (.tmp 19))⟩, ⟨(some 21), none, (.bin .gtr (.tmp 20) (.const (.int .i64 (7))))⟩]) (.cond (.tmp 21) (.seq (.reg [⟨(some 2), none, (.mv (.const (.bool false)))⟩]) .ret) .skip))) (.reg [⟨(some 13), none, (.mv (.tmp 3))⟩, ⟨(some 14), none, (.bin .add (.tmp 13) (.const (.int .i64 (1))))⟩, ⟨(some 3), none, (.mv (.tmp 14))⟩])))
abbrev c81 : CC := (.seq (.reg [⟨(some 1), none, (.box 110 (.tmp 0))⟩, ⟨(some 2), none, (.mv (.const (.bool false)))⟩]) (.seq (.seq (.reg [⟨(some 3), none, (.mv (.const (.int .i64 (0))))⟩]) (.block 0 (.loop c81_b1))) c81_k1))
theorem cc81 : ccode Try.prog [] (Try.f81.body.getD .skip) = some c81 := by kernel_rfl
theorem body81 : Try.f81.body = some (Try.f81.body.getD .skip) := rfl

theorem fewS_C (s : ST) : PureC Try.prog 81 [aSt s] (.ret (aB (fewS s))) := by
  unfold fewS
  refine pureC_of (rs := [(RV.tmp 2)]) Try.func81 (fun a w => Try.call81 a w) body81 cc81 (by kernel_rfl) ?_
  rw [Try.ntmps81]
  simp only [frs, Nat.reduceAdd, Nat.reduceSub]
  repeat (first | (with_reducible first | refine Way.imp ?_ | refine blk_o rfl ?_) | ((with_reducible refine WayR.imp (fun K hK => ?_)); simp (disch := first | omega | (simp only [dls]; omega)) only [std, reduceIte, reduceCtorEq, Int.reduceToNat, Nat.reduceAdd, Nat.reduceSub, Nat.reduceMul, Int.reduceAdd, Int.reduceSub, Int.reduceMul, Int.reduceNeg, fU]; subst hK))
  refine awp_loop (fun (zz : Nat) => ⟨(.junk :: .one (.ptr 0 0 0 0) :: .junk :: aI zz :: .junk :: .junk :: .junk :: .junk :: .junk :: .junk :: .junk :: .junk :: .junk :: .junk :: .junk :: .junk :: .junk :: .junk :: .junk :: .junk :: .junk :: .junk :: .junk :: .junk :: .junk :: .junk :: []), [⟨0, 110, 2, [[.c (.val (.int .i64 s.roll)), .c (encSl 2 fItm s.items)]], true, true⟩]⟩) (fun (zz : Nat) => zz ≤ min (osl s.items).length 5 ∧ allK (need7 s) zz = true) (fun (zz : Nat) => 6 - zz) (0) ?hI1 (Fgt.head (Nat.zero_le 1) [false, true, false, true] ?hT1 ?hH1) ?hB1
  case hT1 => first | (simp (disch := omega) only [hds, liveT, cleanAV, cleanCell, clean1, cleanBlk, reduceIte, Int.reduceSub, Int.reduceAdd, Int.reduceNeg]; done) | rfl
  case hH1 => first | (simp (disch := omega) only [hds, liveT, cleanAV, cleanCell, clean1, cleanBlk, reduceIte, Int.reduceSub, Int.reduceAdd, Int.reduceNeg]; done) | rfl
  · exact ⟨Nat.zero_le _, rfl⟩
  rintro i ⟨hi, hs⟩
  by_cases h9 : i = min (osl s.items).length 5
  · rw [← h9, hs, Bool.true_and]
    by_cases h4 : (osl s.items).length ≤ 4
    · have e1 : ¬ i < (osl s.items).length := by omega
      rw [decide_eq_true h4]
      repeat (first | (with_reducible first | refine Way.imp ?_ | refine blk_o rfl ?_) | ((with_reducible refine WayR.imp (fun K hK => ?_)); simp (disch := first | omega | (simp only [dls]; omega)) only [std, reduceIte, reduceCtorEq, Int.reduceToNat, Nat.reduceAdd, Nat.reduceSub, Nat.reduceMul, Int.reduceAdd, Int.reduceSub, Int.reduceMul, Int.reduceNeg, fU]; subst hK))
      exact ⟨_, rfl, rfl⟩
    · rw [decide_eq_false h4]
      by_cases h5 : i < (osl s.items).length
      · have e2 : ¬ ((i : Int) ≤ 4) := by omega
        repeat (first | (with_reducible first | refine Way.imp ?_ | refine blk_o rfl ?_) | ((with_reducible refine WayR.imp (fun K hK => ?_)); simp (disch := first | omega | (simp only [dls]; omega)) only [std, reduceIte, reduceCtorEq, Int.reduceToNat, Nat.reduceAdd, Nat.reduceSub, Nat.reduceMul, Int.reduceAdd, Int.reduceSub, Int.reduceMul, Int.reduceNeg, fU]; subst hK))
        exact ⟨_, rfl, rfl⟩
      · repeat (first | (with_reducible first | refine Way.imp ?_ | refine blk_o rfl ?_) | ((with_reducible refine WayR.imp (fun K hK => ?_)); simp (disch := first | omega | (simp only [dls]; omega)) only [std, reduceIte, reduceCtorEq, Int.reduceToNat, Nat.reduceAdd, Nat.reduceSub, Nat.reduceMul, Int.reduceAdd, Int.reduceSub, Int.reduceMul, Int.reduceNeg, fU]; subst hK))
        exact ⟨_, rfl, rfl⟩
  · have h1 : i < (osl s.items).length := by omega
    have h2 : (i : Int) ≤ 4 := by omega
    have hsh : need7 s i = decide ((osl s.items)[i].need ≤ 7) := by unfold need7; rw [itAt_in h1]
    by_cases h3 : (osl s.items)[i].need ≤ 7
    · rw [decide_eq_true h3] at hsh
      repeat (first | (with_reducible first | refine Way.imp ?_ | refine blk_o rfl ?_) | ((with_reducible refine WayR.imp (fun K hK => ?_)); simp (disch := first | omega | (simp only [dls]; omega)) only [std, reduceIte, reduceCtorEq, Int.reduceToNat, Nat.reduceAdd, Nat.reduceSub, Nat.reduceMul, Int.reduceAdd, Int.reduceSub, Int.reduceMul, Int.reduceNeg, fU, fItm]; subst hK))
      refine ⟨(i + 1), ?hI2, ?hM2, Fgt.head (Nat.zero_le 1) [false, true, false, true] ?hT2 ?hH2⟩
      case hT2 => first | (simp (disch := omega) only [hds, liveT, cleanAV, cleanCell, clean1, cleanBlk, reduceIte, Int.reduceSub, Int.reduceAdd, Int.reduceNeg]; done) | rfl
      case hH2 => first | (simp (disch := omega) only [hds, liveT, cleanAV, cleanCell, clean1, cleanBlk, reduceIte, Int.reduceSub, Int.reduceAdd, Int.reduceNeg]; done) | rfl
      · exact ⟨by omega, by rw [allK_succ, hs, hsh]; rfl⟩
      · show 6 - (i + 1) < 6 - i; omega
    · rw [decide_eq_false h3] at hsh
      rw [allK_false (show i < min (osl s.items).length 5 by omega) hsh]
      repeat (first | (with_reducible first | refine Way.imp ?_ | refine blk_o rfl ?_) | ((with_reducible refine WayR.imp (fun K hK => ?_)); simp (disch := first | omega | (simp only [dls]; omega)) only [std, reduceIte, reduceCtorEq, Int.reduceToNat, Nat.reduceAdd, Nat.reduceSub, Nat.reduceMul, Int.reduceAdd, Int.reduceSub, Int.reduceMul, Int.reduceNeg, fU, fItm]; subst hK))
      exact ⟨_, rfl, rfl⟩

/-! ### how wide -/

def sumZ : Nat → (Nat → Int) → Int
  | 0, _ => 0
  | n + 1, f => sumZ n f + f n
def wideTo (s : ST) (t : Option (List Int)) (k : Nat) : Int := sumZ k (fun i => tkAt t i * (itAt s i).width)
def okT (s : ST) (t : Option (List Int)) (k : Nat) : Bool := decide (0 ≤ tkAt t k) && decide (tkAt t k ≤ (itAt s k).need)
def okW (s : ST) (t : Option (List Int)) : Bool := rightS s && (decide ((osl t).length = (osl s.items).length) && allK (okT s t) (osl s.items).length)
def wideV (s : ST) (t : Option (List Int)) : AV := if okW s t then .tup [aI (wideTo s t (osl s.items).length), aB (decide (wideTo s t (osl s.items).length ≤ s.roll))] else .tup [aI 0, aB false]
theorem wide_bound {s : ST} (h : RtS s) {t : Option (List Int)} {k : Nat} (hk : k ≤ (osl s.items).length) (ht : allK (okT s t) k = true) : 0 ≤ wideTo s t k ∧ wideTo s t k ≤ k * 1073741824 := by
  induction k with
  | zero => exact ⟨Int.le_refl _, by show (0 : Int) ≤ _; omega⟩
  | succ k ih =>
    rw [allK_succ] at ht
    simp only [Bool.and_eq_true] at ht
    obtain ⟨h1, h2⟩ := ih (by omega) ht.1
    have h3 := ht.2
    unfold okT at h3
    simp only [Bool.and_eq_true, decide_eq_true_eq] at h3
    obtain ⟨⟨w1, w2⟩, n1, n2⟩ := h.item k (by omega)
    have hm1 : 0 ≤ tkAt t k * (itAt s k).width := Int.mul_nonneg h3.1 (by omega)
    have hm2 : tkAt t k * (itAt s k).width ≤ 1024 * 1048576 := Int.mul_le_mul (by omega) w2 (by omega) (by omega)
    show 0 ≤ wideTo s t k + tkAt t k * (itAt s k).width ∧ wideTo s t k + tkAt t k * (itAt s k).width ≤ _
    omega

abbrev c136_k1 : CC := (.seq (.reg [⟨(some 52), none, (.mv (.tmp 6))⟩, ⟨(some 53), none, (.mv (.tmp 6))⟩, ⟨(some 54), none, (.faddr 0 (.tmp 2))⟩, ⟨(some 55), none, (.load 1 false (.tmp 54))⟩, ⟨(some 56), none, (.bin .leq (.tmp 53) (.tmp 55))⟩, ⟨(some 4), none, (.mv (.tmp 52))⟩, ⟨(some 5), none, (.mv (.tmp 56))⟩]) .ret)
abbrev c136_b1 : CC := (.seq (.reg [⟨(some 24), none, (.bin .lss (.tmp 23) (.tmp 22))⟩]) (.seq (.cond (.tmp 24) .skip (.exit 0)) (.seq (.block 1 (.seq (.reg [⟨(some 25), none, (.mv (.tmp 23))⟩, ⟨(some 26), none, (.iaddr 2 none (.tmp 21) (.tmp 23))⟩, ⟨(some 27), none, (.load 2 true (.tmp 26))⟩, ⟨(some 8), none, (.new 121 [(.int .i64 (0)), (.int .i64 (0))])⟩, ⟨(some 7), none, (.mv (.tmp 25))⟩, ⟨none, none, (.store 2 (.tmp 8) (.tmp 27))⟩]) (.seq (.seq (.reg [⟨(some 28), none, (.mv (.tmp 1))⟩, ⟨(some 29), none, (.mv (.tmp 7))⟩, ⟨(some 30), none, (.iaddr 1 none (.tmp 28) (.tmp 29))⟩, ⟨(some 31), none, (.load 1 false (.tmp 30))⟩, ⟨(some 32), none, (.bin .lss (.tmp 31) (.const (.int .i64 (0))))⟩, ⟨(some 33), none, (.mv (.tmp 32))⟩, ⟨(some 34), (some (33, false)), (.mv (.tmp 1))⟩, ⟨(some 35), (some (33, false)), (.mv (.tmp 7))⟩, ⟨(some 36), (some (33, false)), (.iaddr 1 none (.tmp 34) (.tmp 35))⟩, ⟨(some 37), (some (33, false)), (.load 1 false (.tmp 36))⟩, ⟨(some 38), (some (33, false)), (.faddr 1 (.tmp 8))⟩, ⟨(some 39), (some (33, false)), (.load 1 false (.tmp 38))⟩, ⟨(some 40), (some (33, false)), (.bin .gtr (.tmp 37) (.tmp 39))⟩, ⟨(some 41), none, (.pick (.tmp 33) (.const (.bool true)) (.tmp 40))⟩]) (.cond (.tmp 41) (.seq (.reg [⟨(some 4), none, (.mv (.const (.int .i64 (0))))⟩, ⟨(some 5), none, (.mv (.const (.bool false)))⟩]) .ret) .skip)) (.reg [⟨(some 42), none, (.mv (.tmp 6))⟩, ⟨(some 43), none, (.mv (.tmp 1))⟩, ⟨(some 44), none, (.mv (.tmp 7))⟩, ⟨(some 45), none, (.iaddr 1 none (.tmp 43) (.tmp 44))⟩, ⟨(some 46), none, (.load 1 false (.tmp 45))⟩, ⟨(some 47), none, (.faddr 0 (.tmp 8))⟩, ⟨(some 48), none, (.load 1 false (.tmp 47))⟩, ⟨(some 49), none, (.bin .mul (.tmp 46) (.tmp 48))⟩, ⟨(some 50), none, (.bin .add (.tmp 42) (.tmp 49))⟩, ⟨(some 6), none, (.mv (.tmp 50))⟩])))) (.reg [⟨(some 51), none, (.bin .add (.tmp 23) (.const (.int .i64 (1))))⟩, ⟨(some 23), none, (.mv (.tmp 51))⟩]))))
abbrev c136 : CC := (.seq (.reg [⟨(some 2), none, (.box 110 (.tmp 0))⟩, ⟨(some 4), none, (.mv (.const (.int .i64 (0))))⟩, ⟨(some 5), none, (.mv (.const (.bool false)))⟩]) (.seq (.seq (.reg [⟨(some 9), none, (.load 2 true (.tmp 2))⟩, ⟨(some 10), none, (.callf (.func 132) [(.tmp 9)])⟩, ⟨(some 11), none, (.un .not (.tmp 10))⟩, ⟨(some 12), none, (.mv (.tmp 11))⟩, ⟨(some 13), (some (12, false)), (.mv (.tmp 1))⟩, ⟨(some 14), (some (12, false)), (.len false (.tmp 13))⟩, ⟨(some 15), (some (12, false)), (.faddr 1 (.tmp 2))⟩, ⟨(some 16), (some (12, false)), (.load 1 false (.tmp 15))⟩, ⟨(some 17), (some (12, false)), (.len false (.tmp 16))⟩, ⟨(some 18), (some (12, false)), (.bin .neq (.tmp 14) (.tmp 17))⟩, ⟨(some 19), none, (.pick (.tmp 12) (.const (.bool true)) (.tmp 18))⟩]) (.cond (.tmp 19) (.seq (.reg [⟨(some 4), none, (.mv (.const (.int .i64 (0))))⟩, ⟨(some 5), none, (.mv (.const (.bool false)))⟩]) .ret) .skip)) (.seq (.reg [⟨(some 6), none, (.mv (.const (.int .i64 (0))))⟩]) (.seq (.seq (.reg [⟨(some 20), none, (.faddr 1 (.tmp 2))⟩, ⟨(some 21), none, (.load 1 false (.tmp 20))⟩, ⟨(some 22), none, (.len false (.tmp 21))⟩, ⟨(some 23), none, (.mv (.const (.int .i64 (0))))⟩]) (.block 0 (.loop c136_b1))) c136_k1))))
theorem cc136 : ccode Try.prog [] (Try.f136.body.getD .skip) = some c136 := by kernel_rfl
theorem body136 : Try.f136.body = some (Try.f136.body.getD .skip) := rfl

theorem wide_C (s : ST) (t : Option (List Int)) (ht : (osl t).length ≤ 9223372036854775807) : PureC Try.prog 136 [aSt s, aTk t] (.ret (wideV s t)) := by
  have hr := stright_C s
  unfold wideV okW
  cases c1 : rightS s with
  | false =>
    rw [c1] at hr
    rw [Bool.false_and, if_neg (by simp)]
    refine pureC_of (rs := [(RV.tmp 4), (RV.tmp 5)]) Try.func136 (fun a w => Try.call136 a w) body136 cc136 (by kernel_rfl) ?_
    rw [Try.ntmps136]
    simp only [frs, Nat.reduceAdd, Nat.reduceSub]
    repeat (first | (with_reducible first | refine Way.imp ?_ | refine blk_o rfl ?_) | ((with_reducible refine WayR.imp (fun K hK => ?_)); simp (disch := first | omega | (simp only [dls]; omega)) only [std, reduceIte, reduceCtorEq, Int.reduceToNat, Nat.reduceAdd, Nat.reduceSub, Nat.reduceMul, Int.reduceAdd, Int.reduceSub, Int.reduceMul, Int.reduceNeg, fU]; subst hK) | refine zcA (hr) rfl rfl rfl ?_)
    exact ⟨_, rfl, rfl⟩
  | true =>
  rw [c1] at hr
  rw [Bool.true_and]
  have rt := rtS_of c1
  have hl60 := rt.len
  by_cases c2 : (osl t).length = (osl s.items).length
  case neg =>
    rw [decide_eq_false c2, Bool.false_and, if_neg (by simp)]
    refine pureC_of (rs := [(RV.tmp 4), (RV.tmp 5)]) Try.func136 (fun a w => Try.call136 a w) body136 cc136 (by kernel_rfl) ?_
    rw [Try.ntmps136]
    simp only [frs, Nat.reduceAdd, Nat.reduceSub]
    repeat (first | (with_reducible first | refine Way.imp ?_ | refine blk_o rfl ?_) | ((with_reducible refine WayR.imp (fun K hK => ?_)); simp (disch := first | omega | (simp only [dls]; omega)) only [std, reduceIte, reduceCtorEq, Int.reduceToNat, Nat.reduceAdd, Nat.reduceSub, Nat.reduceMul, Int.reduceAdd, Int.reduceSub, Int.reduceMul, Int.reduceNeg, fU]; subst hK) | refine zcA (hr) rfl rfl rfl ?_)
    exact ⟨_, rfl, rfl⟩
  rw [decide_eq_true c2, Bool.true_and]
  refine pureC_of (rs := [(RV.tmp 4), (RV.tmp 5)]) Try.func136 (fun a w => Try.call136 a w) body136 cc136 (by kernel_rfl) ?_
  rw [Try.ntmps136]
  simp only [frs, Nat.reduceAdd, Nat.reduceSub]
  repeat (first | (with_reducible first | refine Way.imp ?_ | refine blk_o rfl ?_) | ((with_reducible refine WayR.imp (fun K hK => ?_)); simp (disch := first | omega | (simp only [dls]; omega)) only [std, reduceIte, reduceCtorEq, Int.reduceToNat, Nat.reduceAdd, Nat.reduceSub, Nat.reduceMul, Int.reduceAdd, Int.reduceSub, Int.reduceMul, Int.reduceNeg, fU, c2]; subst hK) | refine zcA (hr) rfl rfl rfl ?_)
  refine awp_loop (fun (zz : Nat) => ⟨(.junk :: aTk t :: .one (.ptr 0 0 0 0) :: .junk :: .junk :: .junk :: aI (wideTo s t zz) :: .junk :: .junk :: .junk :: .junk :: .junk :: .junk :: .junk :: .junk :: .junk :: .junk :: .junk :: .junk :: .junk :: .junk :: .one (.c (encSl 2 fItm s.items)) :: aI (osl s.items).length :: aI zz :: .junk :: .junk :: .junk :: .junk :: .junk :: .junk :: .junk :: .junk :: .junk :: .junk :: .junk :: .junk :: .junk :: .junk :: .junk :: .junk :: .junk :: .junk :: .junk :: .junk :: .junk :: .junk :: .junk :: .junk :: .junk :: .junk :: .junk :: .junk :: .junk :: .junk :: .junk :: .junk :: .junk :: []), [⟨0, 110, 2, [[.c (.val (.int .i64 s.roll)), .c (encSl 2 fItm s.items)]], true, true⟩]⟩) (fun (zz : Nat) => zz ≤ (osl s.items).length ∧ allK (okT s t) zz = true) (fun (zz : Nat) => (osl s.items).length - zz) (0) ?hI3 (Fgt.head (Nat.zero_le 1) [false, true, true, false, false, false, true, false, false, false, false, false, false, false, false, false, false, false, false, false, false, true, true, true] ?hT3 ?hH3) ?hB3
  case hT3 => first | (simp (disch := omega) only [hds, liveT, cleanAV, cleanCell, clean1, cleanBlk, reduceIte, Int.reduceSub, Int.reduceAdd, Int.reduceNeg]; done) | rfl
  case hH3 => first | (simp (disch := omega) only [hds, liveT, cleanAV, cleanCell, clean1, cleanBlk, reduceIte, Int.reduceSub, Int.reduceAdd, Int.reduceNeg]; done) | rfl
  · exact ⟨Nat.zero_le _, rfl⟩
  rintro i ⟨hi, hs⟩
  obtain ⟨b1, b2⟩ := wide_bound rt hi hs
  by_cases him : i = (osl s.items).length
  · rw [him] at hs b1 b2 ⊢
    rw [hs, if_pos rfl]
    generalize wideTo s t (osl s.items).length = w at *
    repeat (first | (with_reducible first | refine Way.imp ?_ | refine blk_o rfl ?_) | ((with_reducible refine WayR.imp (fun K hK => ?_)); simp (disch := first | omega | (simp only [dls]; omega)) only [std, reduceIte, reduceCtorEq, Int.reduceToNat, Nat.reduceAdd, Nat.reduceSub, Nat.reduceMul, Int.reduceAdd, Int.reduceSub, Int.reduceMul, Int.reduceNeg, fU]; subst hK))
    exact ⟨_, rfl, rfl⟩
  · have hlt : i < (osl s.items).length := by omega
    have hltT : i < (osl t).length := by omega
    have hok : okT s t i = (decide (0 ≤ (osl t)[i]) && decide ((osl t)[i] ≤ (osl s.items)[i].need)) := by unfold okT; rw [tkAt_in hltT, itAt_in hlt]
    obtain ⟨⟨w1, w2⟩, n1, n2⟩ := rt.item i hlt
    rw [itAt_in hlt] at w1 w2 n1 n2
    by_cases h1 : 0 ≤ (osl t)[i]
    · by_cases h2 : (osl t)[i] ≤ (osl s.items)[i].need
      · rw [decide_eq_true h1, decide_eq_true h2] at hok
        have hm1 : 0 ≤ (osl t)[i] * (osl s.items)[i].width := Int.mul_nonneg h1 (by omega)
        have hm2 : (osl t)[i] * (osl s.items)[i].width ≤ 1024 * 1048576 := Int.mul_le_mul (by omega) w2 (by omega) (by omega)
        have hws : wideTo s t (i + 1) = wideTo s t i + (osl t)[i] * (osl s.items)[i].width := by
          show wideTo s t i + tkAt t i * (itAt s i).width = _
          rw [tkAt_in hltT, itAt_in hlt]
        repeat (first | (with_reducible first | refine Way.imp ?_ | refine blk_o rfl ?_) | ((with_reducible refine WayR.imp (fun K hK => ?_)); simp (disch := first | omega | (simp only [dls]; omega)) only [std, reduceIte, reduceCtorEq, Int.reduceToNat, Nat.reduceAdd, Nat.reduceSub, Nat.reduceMul, Int.reduceAdd, Int.reduceSub, Int.reduceMul, Int.reduceNeg, fU, fItm, fI]; subst hK))
        refine ⟨(i + 1), ?hI4, ?hM4, Fgt.head (Nat.zero_le 1) [false, true, true, false, false, false, true, false, false, false, false, false, false, false, false, false, false, false, false, false, false, true, true, true] ?hT4 ?hH4⟩
        case hT4 => first | (simp (disch := omega) only [hds, liveT, cleanAV, cleanCell, clean1, cleanBlk, reduceIte, Int.reduceSub, Int.reduceAdd, Int.reduceNeg, hws]; done) | rfl
        case hH4 => first | (simp (disch := omega) only [hds, liveT, cleanAV, cleanCell, clean1, cleanBlk, reduceIte, Int.reduceSub, Int.reduceAdd, Int.reduceNeg, hws]; done) | rfl
        · exact ⟨Nat.succ_le_of_lt hlt, by rw [allK_succ, hs, hok]; rfl⟩
        · show (osl s.items).length - (i + 1) < (osl s.items).length - i; omega
      · rw [decide_eq_false h2, Bool.and_false] at hok
        rw [allK_false hlt hok, if_neg (by simp)]
        repeat (first | (with_reducible first | refine Way.imp ?_ | refine blk_o rfl ?_) | ((with_reducible refine WayR.imp (fun K hK => ?_)); simp (disch := first | omega | (simp only [dls]; omega)) only [std, reduceIte, reduceCtorEq, Int.reduceToNat, Nat.reduceAdd, Nat.reduceSub, Nat.reduceMul, Int.reduceAdd, Int.reduceSub, Int.reduceMul, Int.reduceNeg, fU, fItm, fI]; subst hK))
        exact ⟨_, rfl, rfl⟩
    · rw [decide_eq_false h1, Bool.false_and] at hok
      rw [allK_false hlt hok, if_neg (by simp)]
      repeat (first | (with_reducible first | refine Way.imp ?_ | refine blk_o rfl ?_) | ((with_reducible refine WayR.imp (fun K hK => ?_)); simp (disch := first | omega | (simp only [dls]; omega)) only [std, reduceIte, reduceCtorEq, Int.reduceToNat, Nat.reduceAdd, Nat.reduceSub, Nat.reduceMul, Int.reduceAdd, Int.reduceSub, Int.reduceMul, Int.reduceNeg, fU, fItm, fI]; subst hK))
      exact ⟨_, rfl, rfl⟩

def fitsT (s : ST) (t : Option (List Int)) : Bool := okW s t && decide (wideTo s t (osl s.items).length ≤ s.roll)
def useT (s : ST) (t : Option (List Int)) : Int := if fitsT s t then wideTo s t (osl s.items).length else 0
abbrev c86 : CC := (.seq (.reg [⟨(some 2), none, (.box 110 (.tmp 0))⟩, ⟨(some 4), none, (.mv (.const (.bool false)))⟩]) (.seq (.reg [⟨(some 8), none, (.load 2 true (.tmp 2))⟩, ⟨(some 9), none, (.mv (.tmp 1))⟩, ⟨(some 10), none, (.callf (.func 136) [(.tmp 8), (.tmp 9)])⟩, ⟨(some 7), none, (.mv (.tmp 10))⟩, ⟨(some 11), none, (.ext (.tmp 7) 0)⟩, ⟨(some 12), none, (.ext (.tmp 7) 1)⟩, ⟨(some 5), none, (.mv (.tmp 11))⟩, ⟨(some 6), none, (.mv (.tmp 12))⟩]) (.seq (.reg [⟨(some 13), none, (.mv (.tmp 6))⟩, ⟨(some 4), none, (.mv (.tmp 13))⟩]) .ret)))
theorem cc86 : ccode Try.prog [] (Try.f86.body.getD .skip) = some c86 := by kernel_rfl
theorem body86 : Try.f86.body = some (Try.f86.body.getD .skip) := rfl

theorem kfits_C (s : ST) (t : Option (List Int)) (ht : (osl t).length ≤ 9223372036854775807) : PureC Try.prog 86 [aSt s, aTk t] (.ret (aB (fitsT s t))) := by
  have hw := wide_C s t ht
  unfold wideV at hw
  unfold fitsT
  generalize wideTo s t (osl s.items).length = w at *
  cases c1 : okW s t with
  | false =>
    rw [c1, if_neg (by simp)] at hw
    rw [Bool.false_and]
    refine pureC_of (rs := [(RV.tmp 4)]) Try.func86 (fun a w => Try.call86 a w) body86 cc86 (by kernel_rfl) ?_
    rw [Try.ntmps86]
    simp only [frs, Nat.reduceAdd, Nat.reduceSub]
    repeat (first | (with_reducible first | refine Way.imp ?_ | refine blk_o rfl ?_) | ((with_reducible refine WayR.imp (fun K hK => ?_)); simp (disch := first | omega | (simp only [dls]; omega)) only [std, reduceIte, reduceCtorEq, Int.reduceToNat, Nat.reduceAdd, Nat.reduceSub, Nat.reduceMul, Int.reduceAdd, Int.reduceSub, Int.reduceMul, Int.reduceNeg, fU]; subst hK) | refine zcA (hw) rfl rfl rfl ?_)
    exact ⟨_, rfl, rfl⟩
  | true =>
    rw [c1, if_pos rfl] at hw
    rw [Bool.true_and]
    generalize decide (w ≤ s.roll) = z at *
    refine pureC_of (rs := [(RV.tmp 4)]) Try.func86 (fun a w => Try.call86 a w) body86 cc86 (by kernel_rfl) ?_
    rw [Try.ntmps86]
    simp only [frs, Nat.reduceAdd, Nat.reduceSub]
    repeat (first | (with_reducible first | refine Way.imp ?_ | refine blk_o rfl ?_) | ((with_reducible refine WayR.imp (fun K hK => ?_)); simp (disch := first | omega | (simp only [dls]; omega)) only [std, reduceIte, reduceCtorEq, Int.reduceToNat, Nat.reduceAdd, Nat.reduceSub, Nat.reduceMul, Int.reduceAdd, Int.reduceSub, Int.reduceMul, Int.reduceNeg, fU]; subst hK) | refine zcA (hw) rfl rfl rfl ?_)
    exact ⟨_, rfl, rfl⟩
abbrev c89 : CC := (.seq (.reg [⟨(some 2), none, (.box 110 (.tmp 0))⟩, ⟨(some 4), none, (.mv (.const (.int .i64 (0))))⟩]) (.seq (.reg [⟨(some 8), none, (.load 2 true (.tmp 2))⟩, ⟨(some 9), none, (.mv (.tmp 1))⟩, ⟨(some 10), none, (.callf (.func 136) [(.tmp 8), (.tmp 9)])⟩, ⟨(some 7), none, (.mv (.tmp 10))⟩, ⟨(some 11), none, (.ext (.tmp 7) 0)⟩, ⟨(some 12), none, (.ext (.tmp 7) 1)⟩, ⟨(some 5), none, (.mv (.tmp 11))⟩, ⟨(some 6), none, (.mv (.tmp 12))⟩]) (.seq (.seq (.reg [⟨(some 13), none, (.mv (.tmp 6))⟩, ⟨(some 14), none, (.un .not (.tmp 13))⟩]) (.cond (.tmp 14) (.seq (.reg [⟨(some 4), none, (.mv (.const (.int .i64 (0))))⟩]) .ret) .skip)) (.seq (.reg [⟨(some 15), none, (.mv (.tmp 5))⟩, ⟨(some 4), none, (.mv (.tmp 15))⟩]) .ret))))
theorem cc89 : ccode Try.prog [] (Try.f89.body.getD .skip) = some c89 := by kernel_rfl
theorem body89 : Try.f89.body = some (Try.f89.body.getD .skip) := rfl

theorem kuse_C (s : ST) (t : Option (List Int)) (ht : (osl t).length ≤ 9223372036854775807) : PureC Try.prog 89 [aSt s, aTk t] (.ret (aI (useT s t))) := by
  have hw := wide_C s t ht
  unfold wideV at hw
  unfold useT fitsT
  generalize wideTo s t (osl s.items).length = w at *
  cases c1 : okW s t with
  | false =>
    rw [c1, if_neg (by simp)] at hw
    rw [Bool.false_and, if_neg (by simp)]
    refine pureC_of (rs := [(RV.tmp 4)]) Try.func89 (fun a w => Try.call89 a w) body89 cc89 (by kernel_rfl) ?_
    rw [Try.ntmps89]
    simp only [frs, Nat.reduceAdd, Nat.reduceSub]
    repeat (first | (with_reducible first | refine Way.imp ?_ | refine blk_o rfl ?_) | ((with_reducible refine WayR.imp (fun K hK => ?_)); simp (disch := first | omega | (simp only [dls]; omega)) only [std, reduceIte, reduceCtorEq, Int.reduceToNat, Nat.reduceAdd, Nat.reduceSub, Nat.reduceMul, Int.reduceAdd, Int.reduceSub, Int.reduceMul, Int.reduceNeg, fU]; subst hK) | refine zcA (hw) rfl rfl rfl ?_)
    exact ⟨_, rfl, rfl⟩
  | true =>
    rw [c1, if_pos rfl] at hw
    rw [Bool.true_and]
    by_cases h : w ≤ s.roll
    · rw [decide_eq_true h] at hw ⊢
      rw [if_pos rfl]
      refine pureC_of (rs := [(RV.tmp 4)]) Try.func89 (fun a w => Try.call89 a w) body89 cc89 (by kernel_rfl) ?_
      rw [Try.ntmps89]
      simp only [frs, Nat.reduceAdd, Nat.reduceSub]
      repeat (first | (with_reducible first | refine Way.imp ?_ | refine blk_o rfl ?_) | ((with_reducible refine WayR.imp (fun K hK => ?_)); simp (disch := first | omega | (simp only [dls]; omega)) only [std, reduceIte, reduceCtorEq, Int.reduceToNat, Nat.reduceAdd, Nat.reduceSub, Nat.reduceMul, Int.reduceAdd, Int.reduceSub, Int.reduceMul, Int.reduceNeg, fU]; subst hK) | refine zcA (hw) rfl rfl rfl ?_)
      exact ⟨_, rfl, rfl⟩
    · rw [decide_eq_false h] at hw ⊢
      rw [if_neg (by simp)]
      refine pureC_of (rs := [(RV.tmp 4)]) Try.func89 (fun a w => Try.call89 a w) body89 cc89 (by kernel_rfl) ?_
      rw [Try.ntmps89]
      simp only [frs, Nat.reduceAdd, Nat.reduceSub]
      repeat (first | (with_reducible first | refine Way.imp ?_ | refine blk_o rfl ?_) | ((with_reducible refine WayR.imp (fun K hK => ?_)); simp (disch := first | omega | (simp only [dls]; omega)) only [std, reduceIte, reduceCtorEq, Int.reduceToNat, Nat.reduceAdd, Nat.reduceSub, Nat.reduceMul, Int.reduceAdd, Int.reduceSub, Int.reduceMul, Int.reduceNeg, fU]; subst hK) | refine zcA (hw) rfl rfl rfl ?_)
      exact ⟨_, rfl, rfl⟩

/-! ### what it is worth -/

def worthTo (ws : VV) (t : Option (List Int)) (k : Nat) : Rat := sumR k (fun i => qAt ws i * (tkAt t i : Rat))
def worthQ (ws : VV) (t : Option (List Int)) : Rat := worthTo ws t (min (osl ws).length (osl t).length)
theorem fits_worth {ws : VV} {t : Option (List Int)} {n L : Nat} (hw : FitsV ws n L) (hL : 1 ≤ L) (ht : ∀ z ∈ osl t, -9223372036854775808 ≤ z ∧ z ≤ 9223372036854775807) (k : Nat) : FitsQ (worthTo ws t k) (k * (L + 3) + 1) := by
  induction k with
  | zero => rw [Nat.zero_mul]; exact fitsQ_zero _ (by omega)
  | succ k ih =>
    have hb : FitsQ (tkAt t k : Rat) 2 := by
      by_cases h : k < (osl t).length
      · rw [tkAt_in h]; have := ht _ (List.getElem_mem h); exact fits_int _ this.1 this.2
      · have : tkAt t k = 0 := by unfold tkAt; rw [List.getD_eq_getElem?_getD, List.getElem?_eq_none (by omega)]; rfl
        rw [this]; exact fits_int 0 (by decide) (by decide)
    refine (ih.add1 (((hw.at k).val hL).mul hb)).mono ?_
    rw [Nat.add_mul k 1 (L + 3)]; omega

abbrev c87_k1 : CC := (.seq (.reg [⟨(some 29), none, (.load 3 true (.tmp 5))⟩, ⟨none, none, (.store 3 (.tmp 4) (.tmp 29))⟩]) .ret)
abbrev c87_b1 : CC := (.seq (.reg [⟨(some 14), none, (.bin .lss (.tmp 13) (.tmp 12))⟩]) (.seq (.cond (.tmp 14) .skip (.exit 0)) (.seq (.block 1 (.seq (.reg [⟨(some 15), none, (.mv (.tmp 13))⟩, ⟨(some 6), none, (.mv (.tmp 15))⟩]) (.reg [⟨(some 16), none, (.load 3 true (.tmp 5))⟩, ⟨(some 17), none, (.mv (.tmp 0))⟩, ⟨(some 18), none, (.mv (.tmp 6))⟩, ⟨(some 19), none, (.iaddr 3 none (.tmp 17) (.tmp 18))⟩, ⟨(some 20), none, (.load 3 true (.tmp 19))⟩, ⟨(some 21), none, (.mv (.tmp 1))⟩, ⟨(some 22), none, (.mv (.tmp 6))⟩, ⟨(some 23), none, (.iaddr 1 none (.tmp 21) (.tmp 22))⟩, ⟨(some 24), none, (.load 1 false (.tmp 23))⟩, ⟨(some 25), none, (.callf (.func 59) [(.tmp 24)])⟩, ⟨(some 26), none, (.callf (.func 48) [(.tmp 20), (.tmp 25)])⟩, ⟨(some 27), none, (.callf (.func 47) [(.tmp 16), (.tmp 26)])⟩, ⟨none, none, (.store 3 (.tmp 5) (.tmp 27))⟩]))) (.reg [⟨(some 28), none, (.bin .add (.tmp 13) (.const (.int .i64 (1))))⟩, ⟨(some 13), none, (.mv (.tmp 28))⟩]))))
abbrev c87 : CC := (.seq (.reg [⟨(some 4), none, (.new 40 [(.bool false), (.slice none 0 0), (.slice none 0 0)])⟩]) (.seq (.reg [⟨(some 7), none, (.callf (.func 59) [(.const (.int .i64 (0)))])⟩, ⟨(some 5), none, (.new 40 [(.bool false), (.slice none 0 0), (.slice none 0 0)])⟩, ⟨none, none, (.store 3 (.tmp 5) (.tmp 7))⟩]) (.seq (.seq (.reg [⟨(some 8), none, (.mv (.tmp 0))⟩, ⟨(some 9), none, (.len false (.tmp 8))⟩, ⟨(some 10), none, (.mv (.tmp 1))⟩, ⟨(some 11), none, (.len false (.tmp 10))⟩, ⟨(some 12), none, (.mm false (.tmp 9) (.tmp 11))⟩, ⟨(some 13), none, (.mv (.const (.int .i64 (0))))⟩]) (.block 0 (.loop c87_b1))) c87_k1)))
theorem cc87 : ccode Try.prog [] (Try.f87.body.getD .skip) = some c87 := by kernel_rfl
theorem body87 : Try.f87.body = some (Try.f87.body.getD .skip) := rfl

theorem worth_C (ws : VV) (t : Option (List Int)) (n L : Nat) (hw : FitsV ws n L) (hn : n ≤ 1000) (hL : 1 ≤ L) (hL2 : L ≤ 1000) (ht : ∀ z ∈ osl t, -9223372036854775808 ≤ z ∧ z ≤ 9223372036854775807) : PureC Try.prog 87 [aV ws, aTk t] (.ret (aR (rawQ (worthQ ws t)))) := by
  have h0 := rint_C 0 (by omega) (by omega)
  change PureC _ _ _ (.ret (aR (rawQ 0))) at h0
  have hw1 := hw.1
  have hz : worthTo ws t 0 = 0 := rfl
  unfold worthQ
  obtain ⟨m, hm⟩ : ∃ m, m = min (osl ws).length (osl t).length := ⟨_, rfl⟩
  have hmi : (if ((osl t).length : Int) < ((osl ws).length : Int) then ((osl t).length : Int) else ((osl ws).length : Int)) = ((m : Nat) : Int) := by split <;> omega
  rw [← hm]
  refine pureC_of (rs := [(RV.cell 4 3 true)]) Try.func87 (fun a w => Try.call87 a w) body87 cc87 (by kernel_rfl) ?_
  rw [Try.ntmps87]
  simp only [frs, Nat.reduceAdd, Nat.reduceSub]
  repeat (first | (with_reducible first | refine Way.imp ?_ | refine blk_o rfl ?_) | ((with_reducible refine WayR.imp (fun K hK => ?_)); simp (disch := first | omega | (simp only [dls]; omega)) only [std, reduceIte, reduceCtorEq, Int.reduceToNat, Nat.reduceAdd, Nat.reduceSub, Nat.reduceMul, Int.reduceAdd, Int.reduceSub, Int.reduceMul, Int.reduceNeg, fU]; subst hK) | refine zcA (h0) rfl rfl rfl ?_)
  refine awp_loop (fun (zz : Nat) => ⟨(aV ws :: aTk t :: .junk :: .junk :: .one (.ptr 0 0 0 0) :: .one (.ptr 1 0 0 0) :: .junk :: .junk :: .junk :: .junk :: .junk :: .junk :: aI m :: aI zz :: .junk :: .junk :: .junk :: .junk :: .junk :: .junk :: .junk :: .junk :: .junk :: .junk :: .junk :: .junk :: .junk :: .junk :: .junk :: .junk :: []), [⟨0, 40, 3, [[.c (.val (.bool false)), .c (.val (.slice none 0 0)), .c (.val (.slice none 0 0))]], true, true⟩, ⟨0, 40, 3, [[.c (.val (.bool (rawQ (worthTo ws t zz)).minus)), .c (nr (rawQ (worthTo ws t zz)).size), .c (nr (rawQ (worthTo ws t zz)).den)]], true, true⟩]⟩) (fun (zz : Nat) => zz ≤ m) (fun (zz : Nat) => m - zz) (0) ?hI5 (Fgt.head (Nat.zero_le 2) [true, true, false, false, true, true, false, false, false, false, false, false, true, true] ?hT5 ?hH5) ?hB5
  case hT5 => first | (simp (disch := omega) only [hds, liveT, cleanAV, cleanCell, clean1, cleanBlk, reduceIte, Int.reduceSub, Int.reduceAdd, Int.reduceNeg, hz, hmi]; done) | rfl
  case hH5 => first | (simp (disch := omega) only [hds, liveT, cleanAV, cleanCell, clean1, cleanBlk, reduceIte, Int.reduceSub, Int.reduceAdd, Int.reduceNeg, hz, hmi]; done) | rfl
  · exact Nat.zero_le _
  rintro i hi
  by_cases him : i = m
  · rw [him]
    repeat (first | (with_reducible first | refine Way.imp ?_ | refine blk_o rfl ?_) | ((with_reducible refine WayR.imp (fun K hK => ?_)); simp (disch := first | omega | (simp only [dls]; omega)) only [std, reduceIte, reduceCtorEq, Int.reduceToNat, Nat.reduceAdd, Nat.reduceSub, Nat.reduceMul, Int.reduceAdd, Int.reduceSub, Int.reduceMul, Int.reduceNeg, fU]; subst hK))
    exact ⟨_, rfl, rfl⟩
  · have hlw : i < (osl ws).length := by omega
    have hlt : i < (osl t).length := by omega
    have hb := ht _ (List.getElem_mem hlt)
    have hti := rint_C (osl t)[i] hb.1 hb.2
    have hra : rAt ws i = (osl ws)[i] := rAt_in hlw
    have hfw := hw.at i
    rw [hra] at hfw
    have hfi := fits_int (osl t)[i] hb.1 hb.2
    have hmu := rmul_C (osl ws)[i] (rawQ ((osl t)[i] : Rat)) (hfw.mono (by omega)) (fits_rawQ (hfi.mono (by omega)))
    have hfs := fits_worth hw hL ht i
    have hi3 : i * (L + 3) ≤ 1000 * 1003 := Nat.mul_le_mul (by omega) (by omega)
    have hfm := (hfw.val hL).mul hfi
    have had := radd_C (rawQ (worthTo ws t i)) (rawQ ((osl ws)[i].val * ((osl t)[i] : Rat))) (fits_rawQ (hfs.mono (by omega))) (fits_rawQ (hfm.mono (by omega)))
    rw [rawQ_val] at hmu
    rw [rawQ_val, rawQ_val] at had
    have hst : worthTo ws t (i + 1) = worthTo ws t i + (osl ws)[i].val * ((osl t)[i] : Rat) := by
      show worthTo ws t i + qAt ws i * (tkAt t i : Rat) = _
      rw [tkAt_in hlt]
      unfold qAt
      rw [hra]
    rw [← hst] at had
    repeat (first | (with_reducible first | refine Way.imp ?_ | refine blk_o rfl ?_) | ((with_reducible refine WayR.imp (fun K hK => ?_)); simp (disch := first | omega | (simp only [dls]; omega)) only [std, reduceIte, reduceCtorEq, Int.reduceToNat, Nat.reduceAdd, Nat.reduceSub, Nat.reduceMul, Int.reduceAdd, Int.reduceSub, Int.reduceMul, Int.reduceNeg, fU, fR, fI]; subst hK) | refine zcA (hti) rfl rfl rfl ?_ | refine zcA (hmu) rfl rfl rfl ?_ | refine zcA (had) rfl rfl rfl ?_)
    refine ⟨(i + 1), ?hI6, ?hM6, Fgt.head (Nat.zero_le 2) [true, true, false, false, true, true, false, false, false, false, false, false, true, true] ?hT6 ?hH6⟩
    case hT6 => first | (simp (disch := omega) only [hds, liveT, cleanAV, cleanCell, clean1, cleanBlk, reduceIte, Int.reduceSub, Int.reduceAdd, Int.reduceNeg]; done) | rfl
    case hH6 => first | (simp (disch := omega) only [hds, liveT, cleanAV, cleanCell, clean1, cleanBlk, reduceIte, Int.reduceSub, Int.reduceAdd, Int.reduceNeg]; done) | rfl
    · omega
    · show m - (i + 1) < m - i; omega

end Go.Proofs.Ytdhkdnmefeeclaa
