/- Rows as the document has them; offcutlaw05.Row, Rows. -/
import Derived.Test.YtdhkdnmefeeclaaBK
import Derived.Test.YtdhkdnmefeeclaaF2
import Derived.Test.YtdhkdnmefeeclaaJE
import Derived.Test.YtdhkdnmefeeclaaVK
set_option linter.unusedSimpArgs false
set_option linter.unusedVariables false
set_option linter.unnecessarySimpa false
set_option linter.unusedSimpArgs false
set_option linter.unusedVariables false
set_option maxRecDepth 100000
set_option maxHeartbeats 4000000
namespace Go.Proofs.Ytdhkdnmefeeclaa
open Go Go.Am Go.Proofs Go.RowKit Go.Off

/-- A row of fractions as the document has it. -/
def fD (q : Rat) : List CV := [.str (decZ q.num), .str (dec q.den)]
abbrev DV := Option (List Rat)
abbrev aD (x : DV) : AV := .one (.c (encSl 2 fD x))
def dAt (x : DV) (i : Nat) : Rat := (osl x).getD i 0
def dAtI (x : DV) (k : Int) : Rat := if 0 ≤ k then dAt x k.toNat else 0
theorem dAt_in {x : DV} {i : Nat} (h : i < (osl x).length) : dAt x i = (osl x)[i] := by
  simp only [dAt, List.getD_eq_getElem?_getD]; rw [List.getElem?_eq_getElem h]; rfl
theorem dAt_out {x : DV} {i : Nat} (h : (osl x).length ≤ i) : dAt x i = 0 := by
  simp only [dAt, List.getD_eq_getElem?_getD]; rw [List.getElem?_eq_none_iff.2 h]; rfl
theorem dec_one : dec 1 = [49] := by have h := dec_eq_one 1; simpa using h
theorem decZ_zero : decZ 0 = [48] := rfl

/-- A row whose fractions are short. -/
def FitsD (x : DV) (n L : Nat) : Prop := (osl x).length ≤ n ∧ ∀ q ∈ osl x, FitsQ q L
theorem FitsD.at {x : DV} {n L : Nat} (h : FitsD x n L) (hL : 1 ≤ L) (i : Nat) : FitsQ (dAt x i) L := by
  by_cases hi : i < (osl x).length
  · rw [dAt_in hi]; exact h.2 _ (List.getElem_mem hi)
  · rw [dAt_out (by omega)]; exact fitsQ_zero L hL

theorem encB_snoc_D (l : List Rat) (q : Rat) : encB fD l ++ [[Cell.c (.str (decZ q.num)), Cell.c (.str (dec q.den))]] = encB fD (l ++ [q]) := by simp [encB, fD]

def rowD (a : VV) : List Rat := (osl a).map RR.val
theorem rowD_len (a : VV) : (rowD a).length = (osl a).length := by simp [rowD]
theorem dAt_rowD (a : VV) (i : Nat) : dAt (rowO (rowD a)) i = qAt a i := by
  unfold dAt
  rw [osl_rowO]
  unfold rowD qAt rAt
  simp only [List.getD_eq_getElem?_getD, List.getElem?_map]
  cases (osl a)[i]? with
  | none => exact zR_val.symm
  | some r => rfl
theorem fitsD_rowD {a : VV} {n L : Nat} (h : FitsV a n L) (hL : 1 ≤ L) : FitsD (rowO (rowD a)) n L := by
  refine ⟨by rw [osl_rowO, rowD_len]; exact h.1, fun q hq => ?_⟩
  rw [osl_rowO] at hq
  obtain ⟨r, hr, rfl⟩ := List.mem_map.1 hq
  exact (h.2 r hr).val hL

abbrev c31_k1 : CC := (.seq (.reg [⟨(some 18), none, (.mv (.tmp 3))⟩, ⟨(some 2), none, (.mv (.tmp 18))⟩]) .ret)
abbrev c31_b1 : CC := (.seq (.reg [⟨(some 9), none, (.bin .lss (.tmp 8) (.tmp 7))⟩]) (.seq (.cond (.tmp 9) .skip (.exit 0)) (.seq (.block 1 (.seq (.reg [⟨(some 10), none, (.iaddr 3 none (.tmp 6) (.tmp 8))⟩, ⟨(some 11), none, (.load 3 true (.tmp 10))⟩, ⟨(some 5), none, (.new 40 [(.bool false), (.slice none 0 0), (.slice none 0 0)])⟩, ⟨none, none, (.store 3 (.tmp 5) (.tmp 11))⟩]) (.reg [⟨(some 12), none, (.mv (.tmp 3))⟩, ⟨(some 13), none, (.load 3 true (.tmp 5))⟩, ⟨(some 14), none, (.callf (.func 35) [(.tmp 13)])⟩, ⟨(some 15), none, (.mkrow 33 2 [(.tmp 14)])⟩, ⟨(some 16), none, (.append 33 2 32 (.tmp 12) (.tmp 15))⟩, ⟨(some 3), none, (.mv (.tmp 16))⟩]))) (.reg [⟨(some 17), none, (.bin .add (.tmp 8) (.const (.int .i64 (1))))⟩, ⟨(some 8), none, (.mv (.tmp 17))⟩]))))
abbrev c31 : CC := (.seq (.reg [⟨(some 2), none, (.mv (.const (.slice none 0 0)))⟩]) (.seq (.reg [⟨(some 3), none, (.mv (.const (.slice none 0 0)))⟩]) (.seq (.seq (.reg [⟨(some 6), none, (.mv (.tmp 0))⟩, ⟨(some 7), none, (.len false (.tmp 6))⟩, ⟨(some 8), none, (.mv (.const (.int .i64 (0))))⟩]) (.block 0 (.loop c31_b1))) c31_k1)))
theorem cc31 : ccode Try.prog [] (Try.f31.body.getD .skip) = some c31 := by kernel_rfl
theorem body31 : Try.f31.body = some (Try.f31.body.getD .skip) := rfl

theorem row_C (a : VV) (n L : Nat) (ha : FitsV a n L) (hn : n ≤ 1000000) (hL2 : L ≤ 1000000) : PureC Try.prog 31 [aV a] (.ret (aD (rowO (rowD a)))) := by
  have ha1 := ha.1
  refine PureC.fresh_rowO (ty := 33) ?_
  refine pureC_of (rs := [(RV.tmp 2)]) Try.func31 (fun a w => Try.call31 a w) body31 cc31 (by kernel_rfl) ?_
  rw [Try.ntmps31]
  simp only [frs, Nat.reduceAdd, Nat.reduceSub]
  repeat (first | (with_reducible first | refine Way.imp ?_ | refine blk_o rfl ?_) | ((with_reducible refine WayR.imp (fun K hK => ?_)); simp (disch := first | omega | (simp only [dls]; omega)) only [std, reduceIte, reduceCtorEq, Int.reduceToNat, Nat.reduceAdd, Nat.reduceSub, Nat.reduceMul, Int.reduceAdd, Int.reduceSub, Int.reduceMul, Int.reduceNeg, fU]; subst hK))
  refine AWp.fgt ?_ (Fgt.openNil (i := 3) rfl 33 2)
  simp only [List.set_cons_succ, List.set_cons_zero, List.length_nil, List.length_cons, List.nil_append, List.cons_append, Nat.reduceAdd]
  refine awp_loop (fun (zz : Nat × (List Rat) × Nat × Bool) => ⟨(aV a :: .junk :: .one (.c (.val (.slice none 0 0))) :: .one (.own 0 zz.2.2.1) :: .junk :: .junk :: aV a :: aI (osl a).length :: aI zz.1 :: .junk :: .junk :: .junk :: .junk :: .junk :: .junk :: .junk :: .junk :: .junk :: .junk :: []), [⟨zz.2.2.1, 33, 2, encB fD zz.2.1, true, zz.2.2.2⟩]⟩) (fun (zz : Nat × (List Rat) × Nat × Bool) => zz.1 ≤ (osl a).length ∧ zz.2.1 = ((osl a).take zz.1).map RR.val ∧ zz.2.2.2 = !zz.2.1.isEmpty) (fun (zz : Nat × (List Rat) × Nat × Bool) => (osl a).length - zz.1) (0, [], 0, false) ?hI1 (Fgt.head (Nat.zero_le 1) [true, false, true, true, false, false, true, true, true] ?hT1 ?hH1) ?hB1
  case hT1 => first | (simp (disch := omega) only [hds, liveT, cleanAV, cleanCell, clean1, cleanBlk, reduceIte, Int.reduceSub, Int.reduceAdd, Int.reduceNeg, encB_nil]; done) | rfl
  case hH1 => first | (simp (disch := omega) only [hds, liveT, cleanAV, cleanCell, clean1, cleanBlk, reduceIte, Int.reduceSub, Int.reduceAdd, Int.reduceNeg, encB_nil]; done) | rfl
  · dsimp only; exact ⟨by omega, rfl, rfl⟩
  rintro ⟨i, out, v, nn⟩ ⟨hi, ho, hnn⟩
  dsimp only at hi ho hnn
  by_cases him : i = (osl a).length
  · repeat (first | (with_reducible first | refine Way.imp ?_ | refine blk_o rfl ?_) | ((with_reducible refine WayR.imp (fun K hK => ?_)); simp (disch := first | omega | (simp only [dls]; omega)) only [std, reduceIte, reduceCtorEq, Int.reduceToNat, Nat.reduceAdd, Nat.reduceSub, Nat.reduceMul, Int.reduceAdd, Int.reduceSub, Int.reduceMul, Int.reduceNeg, fU]; subst hK))
    refine ⟨_, rfl, ?_⟩
    rw [him, List.take_length] at ho
    have he : (!(rowD a).isEmpty) = nn := by rw [hnn, ho]; rfl
    rw [he, show rowD a = out from ho.symm]
    exact Ends.fresh_enc rfl
  · have hlt : i < (osl a).length := by omega
    have hof := lof_C (osl a)[i] ((ha.2 _ (List.getElem_mem hlt)).mono (by omega))
    have hol : out.length = i := by rw [ho, List.length_map, List.length_take]; omega
    repeat (first | (with_reducible first | refine Way.imp ?_ | refine blk_o rfl ?_) | ((with_reducible refine WayR.imp (fun K hK => ?_)); simp (disch := first | omega | (simp only [dls]; omega)) only [std, reduceIte, reduceCtorEq, Int.reduceToNat, Nat.reduceAdd, Nat.reduceSub, Nat.reduceMul, Int.reduceAdd, Int.reduceSub, Int.reduceMul, Int.reduceNeg, fU, fR]; subst hK) | refine zcA (hof) rfl rfl rfl ?_)
    refine ⟨(i + 1, out ++ [(osl a)[i].val], v + 1, true), ?hI2, ?hM2, Fgt.head (Nat.zero_le 1) [true, false, true, true, false, false, true, true, true] ?hT2 ?hH2⟩
    case hT2 => first | (simp (disch := omega) only [hds, liveT, cleanAV, cleanCell, clean1, cleanBlk, reduceIte, Int.reduceSub, Int.reduceAdd, Int.reduceNeg, encB_snoc_D, List.isEmpty_cons, Bool.or_true, Bool.not_false]; done) | rfl
    case hH2 => first | (simp (disch := omega) only [hds, liveT, cleanAV, cleanCell, clean1, cleanBlk, reduceIte, Int.reduceSub, Int.reduceAdd, Int.reduceNeg, encB_snoc_D, List.isEmpty_cons, Bool.or_true, Bool.not_false]; done) | rfl
    · dsimp only
      refine ⟨by omega, ?_, by simp⟩
      rw [ho, List.take_succ_eq_append_getElem hlt, List.map_append]
      rfl
    · dsimp only; omega

abbrev c42_k1 : CC := (.seq (.reg [⟨(some 4), none, (.mv (.const (.bool true)))⟩]) .ret)
abbrev c42_b1 : CC := (.seq (.reg [⟨(some 14), none, (.bin .lss (.tmp 13) (.tmp 12))⟩]) (.seq (.cond (.tmp 14) .skip (.exit 0)) (.seq (.block 1 (.seq (.reg [⟨(some 15), none, (.mv (.tmp 13))⟩, ⟨(some 5), none, (.mv (.tmp 15))⟩]) (.seq (.reg [⟨(some 16), none, (.mv (.tmp 0))⟩, ⟨(some 17), none, (.mv (.tmp 5))⟩, ⟨(some 18), none, (.iaddr 3 none (.tmp 16) (.tmp 17))⟩, ⟨(some 19), none, (.load 3 true (.tmp 18))⟩, ⟨(some 20), none, (.mv (.tmp 1))⟩, ⟨(some 21), none, (.mv (.tmp 5))⟩, ⟨(some 22), none, (.iaddr 2 none (.tmp 20) (.tmp 21))⟩, ⟨(some 23), none, (.load 2 true (.tmp 22))⟩, ⟨(some 24), none, (.callf (.func 32) [(.tmp 19), (.tmp 23)])⟩, ⟨(some 25), none, (.un .not (.tmp 24))⟩]) (.cond (.tmp 25) (.seq (.reg [⟨(some 4), none, (.mv (.const (.bool false)))⟩]) .ret) .skip)))) (.reg [⟨(some 26), none, (.bin .add (.tmp 13) (.const (.int .i64 (1))))⟩, ⟨(some 13), none, (.mv (.tmp 26))⟩]))))
abbrev c42 : CC := (.seq (.reg [⟨(some 4), none, (.mv (.const (.bool false)))⟩]) (.seq (.seq (.reg [⟨(some 6), none, (.mv (.tmp 0))⟩, ⟨(some 7), none, (.len false (.tmp 6))⟩, ⟨(some 8), none, (.mv (.tmp 1))⟩, ⟨(some 9), none, (.len false (.tmp 8))⟩, ⟨(some 10), none, (.bin .neq (.tmp 7) (.tmp 9))⟩]) (.cond (.tmp 10) (.seq (.reg [⟨(some 4), none, (.mv (.const (.bool false)))⟩]) .ret) .skip)) (.seq (.seq (.reg [⟨(some 11), none, (.mv (.tmp 0))⟩, ⟨(some 12), none, (.len false (.tmp 11))⟩, ⟨(some 13), none, (.mv (.const (.int .i64 (0))))⟩]) (.block 0 (.loop c42_b1))) c42_k1)))
theorem cc42 : ccode Try.prog [] (Try.f42.body.getD .skip) = some c42 := by kernel_rfl
theorem body42 : Try.f42.body = some (Try.f42.body.getD .skip) := rfl

theorem rows_C (l : List Rat) (hn : l.length ≤ 1000000) (hl : ∀ q ∈ l, FitsQ q 9000000) : PureC Try.prog 42 [aV (rowO (l.map rawQ)), aD (rowO l)] (.ret (aB true)) := by
  have e1 : (osl (rowO (l.map rawQ))).length = l.length := by rw [osl_rowO, List.length_map]
  have e2 : (osl (rowO l)).length = l.length := by rw [osl_rowO]
  have g1 : ∀ i (h : i < (osl (rowO (l.map rawQ))).length), (osl (rowO (l.map rawQ)))[i] = rawQ (l[i]'(by rw [e1] at h; exact h)) := fun i h => by simp only [osl_rowO, List.getElem_map]
  have g2 : ∀ i (h : i < (osl (rowO l)).length), (osl (rowO l))[i] = l[i]'(by rw [e2] at h; exact h) := fun i h => by simp only [osl_rowO]
  generalize rowO (l.map rawQ) = a at *
  generalize rowO l = x at *
  refine pureC_of (rs := [(RV.tmp 4)]) Try.func42 (fun a w => Try.call42 a w) body42 cc42 (by kernel_rfl) ?_
  rw [Try.ntmps42]
  simp only [frs, Nat.reduceAdd, Nat.reduceSub]
  repeat (first | (with_reducible first | refine Way.imp ?_ | refine blk_o rfl ?_) | ((with_reducible refine WayR.imp (fun K hK => ?_)); simp (disch := first | omega | (simp only [dls]; omega)) only [std, reduceIte, reduceCtorEq, Int.reduceToNat, Nat.reduceAdd, Nat.reduceSub, Nat.reduceMul, Int.reduceAdd, Int.reduceSub, Int.reduceMul, Int.reduceNeg, fU, e1, e2]; subst hK))
  refine awp_loop (fun (zz : Nat) => ⟨(aV a :: aD x :: .junk :: .junk :: aB false :: .junk :: .junk :: .junk :: .junk :: .junk :: .junk :: aV a :: aI (l.length : Int) :: aI zz :: .junk :: .junk :: .junk :: .junk :: .junk :: .junk :: .junk :: .junk :: .junk :: .junk :: .junk :: .junk :: .junk :: []), []⟩) (fun (zz : Nat) => zz ≤ l.length) (fun (zz : Nat) => l.length - zz) (0) ?hI3 (Fgt.head (Nat.le_refl _) [true, true, false, false, true, false, false, false, false, false, false, true, true, true] ?hT3 ?hH3) ?hB3
  case hT3 => first | (simp (disch := omega) only [hds, liveT, cleanAV, cleanCell, clean1, cleanBlk, reduceIte, Int.reduceSub, Int.reduceAdd, Int.reduceNeg]; done) | rfl
  case hH3 => first | (simp (disch := omega) only [hds, liveT, cleanAV, cleanCell, clean1, cleanBlk, reduceIte, Int.reduceSub, Int.reduceAdd, Int.reduceNeg]; done) | rfl
  · exact Nat.zero_le _
  intro i hi
  by_cases him : i = l.length
  · repeat (first | (with_reducible first | refine Way.imp ?_ | refine blk_o rfl ?_) | ((with_reducible refine WayR.imp (fun K hK => ?_)); simp (disch := first | omega | (simp only [dls]; omega)) only [std, reduceIte, reduceCtorEq, Int.reduceToNat, Nat.reduceAdd, Nat.reduceSub, Nat.reduceMul, Int.reduceAdd, Int.reduceSub, Int.reduceMul, Int.reduceNeg, fU]; subst hK))
    exact ⟨_, rfl, rfl⟩
  · have hlt : i < l.length := by omega
    have h1 : i < (osl a).length := by omega
    have h2 : i < (osl x).length := by omega
    have his := is_C l[i] l[i] (hl _ (List.getElem_mem hlt))
    rw [decide_eq_true rfl] at his
    have k1 := g1 i h1
    have k2 := g2 i h2
    generalize rawQ l[i] = ri at *
    generalize l[i] = qi at *
    repeat (first | (with_reducible first | refine Way.imp ?_ | refine blk_o rfl ?_) | ((with_reducible refine WayR.imp (fun K hK => ?_)); simp (disch := first | omega | (simp only [dls]; omega)) only [std, reduceIte, reduceCtorEq, Int.reduceToNat, Nat.reduceAdd, Nat.reduceSub, Nat.reduceMul, Int.reduceAdd, Int.reduceSub, Int.reduceMul, Int.reduceNeg, fU, fR, fD, k1, k2]; subst hK) | refine zcA (his) rfl rfl rfl ?_)
    refine ⟨(i + 1), ?hI4, ?hM4, Fgt.head (Nat.le_refl _) [true, true, false, false, true, false, false, false, false, false, false, true, true, true] ?hT4 ?hH4⟩
    case hT4 => first | (simp (disch := omega) only [hds, liveT, cleanAV, cleanCell, clean1, cleanBlk, reduceIte, Int.reduceSub, Int.reduceAdd, Int.reduceNeg]; done) | rfl
    case hH4 => first | (simp (disch := omega) only [hds, liveT, cleanAV, cleanCell, clean1, cleanBlk, reduceIte, Int.reduceSub, Int.reduceAdd, Int.reduceNeg]; done) | rfl
    · exact Nat.succ_le_of_lt hlt
    · show l.length - (i + 1) < l.length - i; omega

end Go.Proofs.Ytdhkdnmefeeclaa
set_option linter.unusedSimpArgs false
set_option linter.unusedVariables false
set_option maxRecDepth 100000
set_option maxHeartbeats 4000000
namespace Go.Proofs.Ytdhkdnmefeeclaa
open Go Go.Am Go.Proofs Go.RowKit Go.Off

theorem fits_timesN {q : Rat} {L : Nat} (h : FitsQ q L) (hL : 1 ≤ L) (k : Nat) : FitsQ (q * ((k : Nat) : Rat)) (k * (L + 1) + 1) := by
  induction k with
  | zero => rw [show ((0 : Nat) : Rat) = 0 from rfl, Rat.mul_zero]; exact fitsQ_zero _ (by omega)
  | succ k ih =>
    have e : q * ((k + 1 : Nat) : Rat) = q * ((k : Nat) : Rat) + q := by rw [Rat.natCast_add, show ((1 : Nat) : Rat) = 1 from rfl]; grind
    rw [e]
    exact (ih.add1 h).mono (by rw [Nat.add_mul k 1]; omega)

abbrev c137_k1 : CC := (.seq (.reg [⟨(some 16), none, (.load 2 true (.tmp 5))⟩, ⟨none, none, (.store 2 (.tmp 4) (.tmp 16))⟩]) .ret)
abbrev c137_b1 : CC := (.seq (.seq (.reg [⟨(some 8), none, (.mv (.tmp 6))⟩, ⟨(some 9), none, (.mv (.tmp 1))⟩, ⟨(some 10), none, (.bin .lss (.tmp 8) (.tmp 9))⟩]) (.cond (.tmp 10) .skip (.exit 0))) (.seq (.block 1 (.reg [⟨(some 13), none, (.load 2 true (.tmp 5))⟩, ⟨(some 14), none, (.load 2 true (.tmp 2))⟩, ⟨(some 15), none, (.callf (.func 36) [(.tmp 13), (.tmp 14)])⟩, ⟨none, none, (.store 2 (.tmp 5) (.tmp 15))⟩])) (.reg [⟨(some 11), none, (.mv (.tmp 6))⟩, ⟨(some 12), none, (.bin .add (.tmp 11) (.const (.int .i64 (1))))⟩, ⟨(some 6), none, (.mv (.tmp 12))⟩])))
abbrev c137 : CC := (.seq (.reg [⟨(some 2), none, (.box 33 (.tmp 0))⟩, ⟨(some 4), none, (.new 33 [(.string ⟨#[]⟩), (.string ⟨#[]⟩)])⟩]) (.seq (.reg [⟨(some 7), none, (.build [(.string ⟨#[]⟩), (.string ⟨#[]⟩)] [(0, (1, (.const (.string ⟨#[48]⟩)))), (1, (1, (.const (.string ⟨#[49]⟩))))])⟩, ⟨(some 5), none, (.new 33 [(.string ⟨#[]⟩), (.string ⟨#[]⟩)])⟩, ⟨none, none, (.store 2 (.tmp 5) (.tmp 7))⟩]) (.seq (.seq (.reg [⟨(some 6), none, (.mv (.const (.int .i64 (0))))⟩]) (.block 0 (.loop c137_b1))) c137_k1)))
theorem cc137 : ccode Try.prog [] (Try.f137.body.getD .skip) = some c137 := by kernel_rfl
theorem body137 : Try.f137.body = some (Try.f137.body.getD .skip) := rfl

theorem times_C (q : Rat) (n L : Nat) (h : FitsQ q L) (hL : 1 ≤ L) (hL2 : L ≤ 1000) (hn : n ≤ 1000) : PureC Try.prog 137 [aQ q, aI n] (.ret (aQ (q * ((n : Nat) : Rat)))) := by
  have e0 : q * ((0 : Nat) : Rat) = 0 := by rw [show ((0 : Nat) : Rat) = 0 from rfl, Rat.mul_zero]
  have e1 : (decZ (q * ((0 : Nat) : Rat)).num) = [48] := by rw [e0]; rfl
  have e2 : (dec (q * ((0 : Nat) : Rat)).den) = [49] := by rw [e0]; exact dec_one
  refine pureC_of (rs := [(RV.cell 4 2 true)]) Try.func137 (fun a w => Try.call137 a w) body137 cc137 (by kernel_rfl) ?_
  rw [Try.ntmps137]
  simp only [frs, Nat.reduceAdd, Nat.reduceSub]
  repeat (first | (with_reducible first | refine Way.imp ?_ | refine blk_o rfl ?_) | ((with_reducible refine WayR.imp (fun K hK => ?_)); simp (disch := first | omega | (simp only [dls]; omega)) only [std, reduceIte, reduceCtorEq, Int.reduceToNat, Nat.reduceAdd, Nat.reduceSub, Nat.reduceMul, Int.reduceAdd, Int.reduceSub, Int.reduceMul, Int.reduceNeg, fU]; subst hK))
  refine awp_loop (fun (zz : Nat) => ⟨(.junk :: aI n :: .one (.ptr 0 0 0 0) :: .junk :: .one (.ptr 1 0 0 0) :: .one (.ptr 2 0 0 0) :: aI zz :: .junk :: .junk :: .junk :: .junk :: .junk :: .junk :: .junk :: .junk :: .junk :: .junk :: []), [⟨0, 33, 2, [[.c (.str (decZ q.num)), .c (.str (dec q.den))]], true, true⟩, ⟨0, 33, 2, [[.c (.val (.string ⟨#[]⟩)), .c (.val (.string ⟨#[]⟩))]], true, true⟩, ⟨0, 33, 2, [[.c (.str (decZ (q * ((zz : Nat) : Rat)).num)), .c (.str (dec (q * ((zz : Nat) : Rat)).den))]], true, true⟩]⟩) (fun (zz : Nat) => zz ≤ n) (fun (zz : Nat) => n - zz) (0) ?hI1 (Fgt.head (Nat.zero_le 3) [false, true, true, false, true, true, true] ?hT1 ?hH1) ?hB1
  case hT1 => first | (simp (disch := omega) only [hds, liveT, cleanAV, cleanCell, clean1, cleanBlk, reduceIte, Int.reduceSub, Int.reduceAdd, Int.reduceNeg, e1, e2]; done) | rfl
  case hH1 => first | (simp (disch := omega) only [hds, liveT, cleanAV, cleanCell, clean1, cleanBlk, reduceIte, Int.reduceSub, Int.reduceAdd, Int.reduceNeg, e1, e2]; done) | rfl
  · exact Nat.zero_le _
  rintro k hk
  by_cases hkn : k = n
  · rw [hkn]
    repeat (first | (with_reducible first | refine Way.imp ?_ | refine blk_o rfl ?_) | ((with_reducible refine WayR.imp (fun K hK => ?_)); simp (disch := first | omega | (simp only [dls]; omega)) only [std, reduceIte, reduceCtorEq, Int.reduceToNat, Nat.reduceAdd, Nat.reduceSub, Nat.reduceMul, Int.reduceAdd, Int.reduceSub, Int.reduceMul, Int.reduceNeg, fU]; subst hK))
    exact ⟨_, rfl, rfl⟩
  · have hlt : k < n := by omega
    have hf := fits_timesN h hL k
    have hm : k * (L + 1) ≤ 1000 * 1001 := Nat.mul_le_mul (by omega) (by omega)
    have ha := qadd_C (q * ((k : Nat) : Rat)) q (hf.mono (by omega)) (h.mono (by omega))
    have e : q * ((k : Nat) : Rat) + q = q * ((k + 1 : Nat) : Rat) := by rw [Rat.natCast_add, show ((1 : Nat) : Rat) = 1 from rfl]; grind
    rw [e] at ha
    repeat (first | (with_reducible first | refine Way.imp ?_ | refine blk_o rfl ?_) | ((with_reducible refine WayR.imp (fun K hK => ?_)); simp (disch := first | omega | (simp only [dls]; omega)) only [std, reduceIte, reduceCtorEq, Int.reduceToNat, Nat.reduceAdd, Nat.reduceSub, Nat.reduceMul, Int.reduceAdd, Int.reduceSub, Int.reduceMul, Int.reduceNeg, fU]; subst hK) | refine zcA (ha) rfl rfl rfl ?_)
    refine ⟨(k + 1), ?hI2, ?hM2, Fgt.head (Nat.zero_le 3) [false, true, true, false, true, true, true] ?hT2 ?hH2⟩
    case hT2 => first | (simp (disch := omega) only [hds, liveT, cleanAV, cleanCell, clean1, cleanBlk, reduceIte, Int.reduceSub, Int.reduceAdd, Int.reduceNeg]; done) | rfl
    case hH2 => first | (simp (disch := omega) only [hds, liveT, cleanAV, cleanCell, clean1, cleanBlk, reduceIte, Int.reduceSub, Int.reduceAdd, Int.reduceNeg]; done) | rfl
    · omega
    · show n - (k + 1) < n - k; omega

theorem fits_refIn {f : Int → Rat} {W : Int} {q : Rat} {left : Int} {L B : Nat} (hq : FitsQ q L) (hL : 1 ≤ L) (hf : ∀ l, FitsQ (f l) B) : ∀ c, c ≤ 7 → FitsQ (refIn f W q left c) (B + 7 * (L + 1) + 2) := fun c hc => by
  obtain ⟨j, hj, he⟩ := refIn_eq f W q left c
  rw [he]
  exact ((fits_timesN hq hL j).add1 (hf _)).mono (by have := Nat.mul_le_mul (show j ≤ 7 by omega) (Nat.le_refl (L + 1)); omega)
theorem fits_refD {N : Nat} {W need : Nat → Int} {q : Nat → Rat} {L : Nat} (hq : ∀ k, FitsQ (q k) L) (hL : 1 ≤ L) (hn : ∀ k, k < N → need k ≤ 7) : ∀ m, m ≤ N → ∀ left, FitsQ (refD N W need q m left) (m * (7 * (L + 1) + 2) + 1) := by
  intro m
  induction m with
  | zero => intro _ _; exact fitsQ_zero _ (by omega)
  | succ m ih =>
    intro hm left
    refine (fits_refIn (hq _) hL (ih (by omega)) _ ?_).mono (by rw [Nat.add_mul m 1]; omega)
    have := hn (N - (m + 1)) (by omega)
    unfold roomN
    omega

/-- What a row of the document's fractions is. -/
structure IsD (x : DV) (n : Nat) (f : Nat → Rat) : Prop where
  len : (osl x).length = n
  at' : ∀ i (h : i < (osl x).length), (osl x)[i] = f i
abbrev c88_k1 : CC := (.seq (.reg [⟨(some 69), none, (.load 2 true (.tmp 11))⟩, ⟨none, none, (.store 2 (.tmp 10) (.tmp 69))⟩]) .ret)
abbrev c88_b1 : CC := (.seq (.seq (.reg [⟨(some 26), none, (.mv (.tmp 12))⟩, ⟨(some 27), none, (.mv (.tmp 1))⟩, ⟨(some 28), none, (.mv (.tmp 3))⟩, ⟨(some 29), none, (.iaddr 1 none (.tmp 27) (.tmp 28))⟩, ⟨(some 30), none, (.load 1 false (.tmp 29))⟩, ⟨(some 31), none, (.bin .leq (.tmp 26) (.tmp 30))⟩, ⟨(some 32), none, (.mv (.tmp 31))⟩, ⟨(some 33), (some (32, true)), (.mv (.tmp 12))⟩, ⟨(some 34), (some (32, true)), (.mv (.tmp 0))⟩, ⟨(some 35), (some (32, true)), (.mv (.tmp 3))⟩, ⟨(some 36), (some (32, true)), (.iaddr 1 none (.tmp 34) (.tmp 35))⟩, ⟨(some 37), (some (32, true)), (.load 1 false (.tmp 36))⟩, ⟨(some 38), (some (32, true)), (.bin .mul (.tmp 33) (.tmp 37))⟩, ⟨(some 39), (some (32, true)), (.mv (.tmp 4))⟩, ⟨(some 40), (some (32, true)), (.bin .leq (.tmp 38) (.tmp 39))⟩, ⟨(some 41), none, (.pick (.tmp 32) (.tmp 40) (.const (.bool false)))⟩]) (.cond (.tmp 41) .skip (.exit 0))) (.seq (.block 1 (.seq (.regn true [⟨(some 44), none, (.mv (.tmp 2))⟩, ⟨(some 45), none, (.mv (.tmp 3))⟩, ⟨(some 46), none, (.iaddr 2 none (.tmp 44) (.tmp 45))⟩, ⟨(some 47), none, (.load 2 true (.tmp 46))⟩, ⟨(some 48), none, (.mv (.tmp 12))⟩, ⟨(some 49), none, (.callf (.func 137) [(.tmp 47), (.tmp 48)])⟩, ⟨(some 50), none, (.mv (.tmp 0))⟩, ⟨(some 51), none, (.mv (.tmp 1))⟩, ⟨(some 52), none, (.mv (.tmp 2))⟩, ⟨(some 53), none, (.mv (.tmp 3))⟩, ⟨(some 54), none, (.bin .add (.tmp 53) (.const (.int .i64 (1))))⟩, ⟨(some 55), none, (.mv (.tmp 4))⟩, ⟨(some 56), none, (.mv (.tmp 12))⟩, ⟨(some 57), none, (.mv (.tmp 0))⟩, ⟨(some 58), none, (.mv (.tmp 3))⟩, ⟨(some 59), none, (.iaddr 1 none (.tmp 57) (.tmp 58))⟩, ⟨(some 60), none, (.load 1 false (.tmp 59))⟩, ⟨(some 61), none, (.bin .mul (.tmp 56) (.tmp 60))⟩, ⟨(some 62), none, (.bin .sub (.tmp 55) (.tmp 61))⟩, ⟨(some 63), none, (.callf (.func 88) [(.tmp 50), (.tmp 51), (.tmp 52), (.tmp 54), (.tmp 62)])⟩, ⟨(some 64), none, (.callf (.func 36) [(.tmp 49), (.tmp 63)])⟩, ⟨(some 13), none, (.fill 33 [(.string ⟨#[]⟩), (.string ⟨#[]⟩)])⟩, ⟨none, none, (.store 2 (.tmp 13) (.tmp 64))⟩]) (.seq (.reg [⟨(some 65), none, (.load 2 true (.tmp 11))⟩, ⟨(some 66), none, (.load 2 true (.tmp 13))⟩, ⟨(some 67), none, (.callf (.func 138) [(.tmp 65), (.tmp 66)])⟩]) (.cond (.tmp 67) (.reg [⟨(some 68), none, (.load 2 true (.tmp 13))⟩, ⟨none, none, (.store 2 (.tmp 11) (.tmp 68))⟩]) .skip)))) (.reg [⟨(some 42), none, (.mv (.tmp 12))⟩, ⟨(some 43), none, (.bin .add (.tmp 42) (.const (.int .i64 (1))))⟩, ⟨(some 12), none, (.mv (.tmp 43))⟩])))
abbrev c88 : CC := (.seq (.reg [⟨(some 10), none, (.new 33 [(.string ⟨#[]⟩), (.string ⟨#[]⟩)])⟩]) (.seq (.seq (.reg [⟨(some 14), none, (.mv (.tmp 3))⟩, ⟨(some 15), none, (.mv (.tmp 0))⟩, ⟨(some 16), none, (.len false (.tmp 15))⟩, ⟨(some 17), none, (.bin .eql (.tmp 14) (.tmp 16))⟩]) (.cond (.tmp 17) (.seq (.reg [⟨(some 18), none, (.build [(.string ⟨#[]⟩), (.string ⟨#[]⟩)] [(0, (1, (.const (.string ⟨#[48]⟩)))), (1, (1, (.const (.string ⟨#[49]⟩))))])⟩, ⟨none, none, (.store 2 (.tmp 10) (.tmp 18))⟩]) .ret) .skip)) (.seq (.reg [⟨(some 19), none, (.mv (.tmp 0))⟩, ⟨(some 20), none, (.mv (.tmp 1))⟩, ⟨(some 21), none, (.mv (.tmp 2))⟩, ⟨(some 22), none, (.mv (.tmp 3))⟩, ⟨(some 23), none, (.bin .add (.tmp 22) (.const (.int .i64 (1))))⟩, ⟨(some 24), none, (.mv (.tmp 4))⟩, ⟨(some 25), none, (.callf (.func 88) [(.tmp 19), (.tmp 20), (.tmp 21), (.tmp 23), (.tmp 24)])⟩, ⟨(some 11), none, (.new 33 [(.string ⟨#[]⟩), (.string ⟨#[]⟩)])⟩, ⟨none, none, (.store 2 (.tmp 11) (.tmp 25))⟩]) (.seq (.seq (.reg [⟨(some 12), none, (.mv (.const (.int .i64 (1))))⟩]) (.block 0 (.loop c88_b1))) c88_k1))))
theorem cc88 : ccode Try.prog [] (Try.f88.body.getD .skip) = some c88 := by kernel_rfl
theorem body88 : Try.f88.body = some (Try.f88.body.getD .skip) := rfl

theorem refBest_of (N : Nat) (W need : Nat → Int) (q : Nat → Rat) (w d : Option (List Int)) (x : DV) (L : Nat) (hw : IsI w N W) (hd : IsI d N need) (hx : IsD x N q) (hN : N ≤ 4) (hW : ∀ k, k < N → 1 ≤ W k ∧ W k ≤ 1048576) (hn : ∀ k, k < N → 0 ≤ need k ∧ need k ≤ 7)
    (hq : ∀ k, FitsQ (q k) L) (hL : 1 ≤ L) (hL2 : L ≤ 1000) : ∀ m, m ≤ N → ∀ left : Int, 0 ≤ left → left ≤ 1048576 →
    PureC Try.prog 88 [.one (.c (encSl 1 fI w)), .one (.c (encSl 1 fI d)), aD x, aI ((N - m : Nat) : Int), aI left] (.ret (aQ (refD N W need q m left))) := by
  have hwl := hw.len
  have hdl := hd.len
  have hxl := hx.len
  have hwi := hw.at'
  have hdi := hd.at'
  have hxi := hx.at'
  intro m
  induction m with
  | zero =>
    intro _ left hl0 hl1
    have z1 : (aQ (refD N W need q 0 left)) = .agg [.c (.str [48]), .c (.str [49])] := by
      show AV.agg [.c (.str (decZ (0 : Rat).num)), .c (.str (dec (0 : Rat).den))] = _
      rw [show dec (0 : Rat).den = [49] from dec_one]; rfl
    rw [z1]
    refine pureC_of (rs := [(RV.cell 10 2 true)]) Try.func88 (fun a w => Try.call88 a w) body88 cc88 (by kernel_rfl) ?_
    rw [Try.ntmps88]
    simp only [frs, Nat.reduceAdd, Nat.reduceSub]
    repeat (first | (with_reducible first | refine Way.imp ?_ | refine blk_o rfl ?_) | ((with_reducible refine WayR.imp (fun K hK => ?_)); simp (disch := first | omega | (simp only [dls]; omega)) only [std, reduceIte, reduceCtorEq, Int.reduceToNat, Nat.reduceAdd, Nat.reduceSub, Nat.reduceMul, Int.reduceAdd, Int.reduceSub, Int.reduceMul, Int.reduceNeg, fU, hwl]; subst hK))
    exact ⟨_, rfl, rfl⟩
  | succ m ih =>
    intro hm left hl0 hl1
    obtain ⟨k, hk⟩ : ∃ k, k = N - (m + 1) := ⟨_, rfl⟩
    have hkN : k < N := by omega
    have hk1 : ((N - m : Nat) : Int) = (k : Int) + 1 := by omega
    have ih' := ih (by omega)
    rw [hk1] at ih'
    rw [← hk]
    obtain ⟨w1, w2⟩ := hW k hkN
    obtain ⟨n1, n2⟩ := hn k hkN
    have hrd : refD N W need q (m + 1) left = refIn (refD N W need q m) (W k) (q k) left (roomN (W k) (need k) left) := by rw [hk]; rfl
    have hfd := fits_refD (W := W) (need := need) hq hL (fun k hk => (hn k hk).2) m (by omega)
    have hfi := fun c (hc : c ≤ 7) => fits_refIn (W := W k) (left := left) (hq k) hL hfd c hc
    have hmB : m * (7 * (L + 1) + 2) ≤ 4 * 8000 := Nat.mul_le_mul (by omega) (by omega)
    have h0 := ih' left hl0 hl1
    rw [hrd]
    have hr7 : roomN (W k) (need k) left ≤ 7 := by unfold roomN; omega
    have ei : refIn (refD N W need q m) (W k) (q k) left 0 = refD N W need q m left := rfl
    generalize refD N W need q m = f at *
    refine pureC_of (rs := [(RV.cell 10 2 true)]) Try.func88 (fun a w => Try.call88 a w) body88 cc88 (by kernel_rfl) ?_
    rw [Try.ntmps88]
    simp only [frs, Nat.reduceAdd, Nat.reduceSub]
    repeat (first | (with_reducible first | refine Way.imp ?_ | refine blk_o rfl ?_) | ((with_reducible refine WayR.imp (fun K hK => ?_)); simp (disch := first | omega | (simp only [dls]; omega)) only [std, reduceIte, reduceCtorEq, Int.reduceToNat, Nat.reduceAdd, Nat.reduceSub, Nat.reduceMul, Int.reduceAdd, Int.reduceSub, Int.reduceMul, Int.reduceNeg, fU, hwl]; subst hK) | refine zcA (h0) rfl rfl rfl ?_)
    refine awp_loop (fun (zz : Nat × Rat) => ⟨(.one (.c (encSl 1 fI w)) :: .one (.c (encSl 1 fI d)) :: aD x :: aI k :: aI left :: .junk :: .junk :: .junk :: .junk :: .junk :: .one (.ptr 0 0 0 0) :: .one (.ptr 1 0 0 0) :: aI ((zz.1 : Int) + 1) :: .junk :: .junk :: .junk :: .junk :: .junk :: .junk :: .junk :: .junk :: .junk :: .junk :: .junk :: .junk :: .junk :: .junk :: .junk :: .junk :: .junk :: .junk :: .junk :: .junk :: .junk :: .junk :: .junk :: .junk :: .junk :: .junk :: .junk :: .junk :: .junk :: .junk :: .junk :: .junk :: .junk :: .junk :: .junk :: .junk :: .junk :: .junk :: .junk :: .junk :: .junk :: .junk :: .junk :: .junk :: .junk :: .junk :: .junk :: .junk :: .junk :: .junk :: .junk :: .junk :: .junk :: .junk :: .junk :: .junk :: .junk :: []), [⟨0, 33, 2, [[.c (.val (.string ⟨#[]⟩)), .c (.val (.string ⟨#[]⟩))]], true, true⟩, ⟨0, 33, 2, [[.c (.str (decZ zz.2.num)), .c (.str (dec zz.2.den))]], true, true⟩]⟩) (fun (zz : Nat × Rat) => zz.1 ≤ roomN (W k) (need k) left ∧ zz.2 = refIn f (W k) (q k) left zz.1) (fun (zz : Nat × Rat) => 8 - zz.1) (0, f left) ?hI3 (Fgt.head (Nat.zero_le 2) [true, true, true, true, true, false, false, false, false, false, true, true, true] ?hT3 ?hH3) ?hB3
    case hT3 => first | (simp (disch := omega) only [hds, liveT, cleanAV, cleanCell, clean1, cleanBlk, reduceIte, Int.reduceSub, Int.reduceAdd, Int.reduceNeg]; done) | rfl
    case hH3 => first | (simp (disch := omega) only [hds, liveT, cleanAV, cleanCell, clean1, cleanBlk, reduceIte, Int.reduceSub, Int.reduceAdd, Int.reduceNeg]; done) | rfl
    · dsimp only; exact ⟨Nat.zero_le _, rfl⟩
    rintro ⟨n, o⟩ ⟨hnr, ho⟩
    dsimp only at hnr ho
    have hm1 : 0 ≤ ((n : Int) + 1) * W k := Int.mul_nonneg (by omega) (by omega)
    have hm2 : ((n : Int) + 1) * W k ≤ 8 * 1048576 := Int.mul_le_mul (by omega) w2 (by omega) (by omega)
    by_cases hlt : n < roomN (W k) (need k) left
    · obtain ⟨r1, r2⟩ := roomN_le (j := n + 1) w1 hl0 hlt
      have r2' : ((n : Int) + 1) * W k ≤ left := by simpa using r2
      have r1' : (n : Int) + 1 ≤ need k := by omega
      have ht := times_C (q k) (n + 1) L (hq k) hL hL2 (by omega)
      rw [show (((n + 1 : Nat) : Nat) : Int) = (n : Int) + 1 by omega] at ht
      have hB := ih' (left - ((n : Int) + 1) * W k) (by omega) (by omega)
      have f1 := fits_timesN (hq k) hL (n + 1)
      have hmn : (n + 1) * (L + 1) ≤ 8 * 1001 := Nat.mul_le_mul (by omega) (by omega)
      have f2 := hfd (left - ((n : Int) + 1) * W k)
      have had := qadd_C (q k * ((n + 1 : Nat) : Rat)) (f (left - ((n : Int) + 1) * W k)) (f1.mono (by omega)) (f2.mono (by omega))
      have f3 := hfi n (by omega)
      rw [← ho] at f3
      have f4 := f1.add1 f2
      have hle := qless_C o (q k * ((n + 1 : Nat) : Rat) + f (left - ((n : Int) + 1) * W k)) (f3.mono (by omega)) (f4.mono (by omega))
      have hst : refIn f (W k) (q k) left (n + 1) = if o < q k * ((n + 1 : Nat) : Rat) + f (left - ((n : Int) + 1) * W k) then q k * ((n + 1 : Nat) : Rat) + f (left - ((n : Int) + 1) * W k) else o := by rw [ho]; rfl
      generalize q k * ((n + 1 : Nat) : Rat) = z1 at *
      generalize f (left - ((n : Int) + 1) * W k) = z2 at *
      generalize z1 + z2 = z at *
      by_cases hc : o < z
      · rw [decide_eq_true hc] at hle
        rw [if_pos hc] at hst
        repeat (first | (with_reducible first | refine Way.imp ?_ | refine blk_o rfl ?_) | ((with_reducible refine WayR.imp (fun K hK => ?_)); simp (disch := first | omega | (simp only [dls]; omega)) only [std, reduceIte, reduceCtorEq, Int.reduceToNat, Nat.reduceAdd, Nat.reduceSub, Nat.reduceMul, Int.reduceAdd, Int.reduceSub, Int.reduceMul, Int.reduceNeg, fU, hwl, hdl, hxl, hwi, hdi, hxi, fI, fD]; subst hK) | refine zcA (ht) rfl rfl rfl ?_ | refine zcA (hB) rfl rfl rfl ?_ | refine zcA (had) rfl rfl rfl ?_ | refine zcA (hle) rfl rfl rfl ?_)
        refine ⟨(n + 1, z), ?hI4, ?hM4, Fgt.head (Nat.zero_le 2) [true, true, true, true, true, false, false, false, false, false, true, true, true] ?hT4 ?hH4⟩
        case hT4 => first | (simp (disch := omega) only [hds, liveT, cleanAV, cleanCell, clean1, cleanBlk, reduceIte, Int.reduceSub, Int.reduceAdd, Int.reduceNeg]; done) | rfl
        case hH4 => first | (simp (disch := omega) only [hds, liveT, cleanAV, cleanCell, clean1, cleanBlk, reduceIte, Int.reduceSub, Int.reduceAdd, Int.reduceNeg]; done) | rfl
        · dsimp only; exact ⟨hlt, hst.symm⟩
        · dsimp only; omega
      · rw [decide_eq_false hc] at hle
        rw [if_neg hc] at hst
        repeat (first | (with_reducible first | refine Way.imp ?_ | refine blk_o rfl ?_) | ((with_reducible refine WayR.imp (fun K hK => ?_)); simp (disch := first | omega | (simp only [dls]; omega)) only [std, reduceIte, reduceCtorEq, Int.reduceToNat, Nat.reduceAdd, Nat.reduceSub, Nat.reduceMul, Int.reduceAdd, Int.reduceSub, Int.reduceMul, Int.reduceNeg, fU, hwl, hdl, hxl, hwi, hdi, hxi, fI, fD]; subst hK) | refine zcA (ht) rfl rfl rfl ?_ | refine zcA (hB) rfl rfl rfl ?_ | refine zcA (had) rfl rfl rfl ?_ | refine zcA (hle) rfl rfl rfl ?_)
        refine ⟨(n + 1, o), ?hI5, ?hM5, Fgt.head (Nat.zero_le 2) [true, true, true, true, true, false, false, false, false, false, true, true, true] ?hT5 ?hH5⟩
        case hT5 => first | (simp (disch := omega) only [hds, liveT, cleanAV, cleanCell, clean1, cleanBlk, reduceIte, Int.reduceSub, Int.reduceAdd, Int.reduceNeg]; done) | rfl
        case hH5 => first | (simp (disch := omega) only [hds, liveT, cleanAV, cleanCell, clean1, cleanBlk, reduceIte, Int.reduceSub, Int.reduceAdd, Int.reduceNeg]; done) | rfl
        · dsimp only; exact ⟨hlt, hst.symm⟩
        · dsimp only; omega
    · have hne : n = roomN (W k) (need k) left := by omega
      rw [← hne, ← ho]
      by_cases r1 : (n : Int) + 1 ≤ need k
      · have r2 : ¬ ((n : Int) + 1) * W k ≤ left := fun h => by
          have := roomN_ge (W := W k) (need := need k) (left := left) (j := n + 1) w1 (by omega) (by simpa using h)
          omega
        repeat (first | (with_reducible first | refine Way.imp ?_ | refine blk_o rfl ?_) | ((with_reducible refine WayR.imp (fun K hK => ?_)); simp (disch := first | omega | (simp only [dls]; omega)) only [std, reduceIte, reduceCtorEq, Int.reduceToNat, Nat.reduceAdd, Nat.reduceSub, Nat.reduceMul, Int.reduceAdd, Int.reduceSub, Int.reduceMul, Int.reduceNeg, fU, hwl, hdl, hxl, hwi, hdi, hxi, fI, fD]; subst hK))
        exact ⟨_, rfl, rfl⟩
      · repeat (first | (with_reducible first | refine Way.imp ?_ | refine blk_o rfl ?_) | ((with_reducible refine WayR.imp (fun K hK => ?_)); simp (disch := first | omega | (simp only [dls]; omega)) only [std, reduceIte, reduceCtorEq, Int.reduceToNat, Nat.reduceAdd, Nat.reduceSub, Nat.reduceMul, Int.reduceAdd, Int.reduceSub, Int.reduceMul, Int.reduceNeg, fU, hwl, hdl, hxl, hwi, hdi, hxi, fI, fD]; subst hK))
        exact ⟨_, rfl, rfl⟩

end Go.Proofs.Ytdhkdnmefeeclaa
