/- Rows as the document has them; offcutlaw05.Row, Rows. -/
import Derived.Test.YtdhkdnmefeeclaaF2
import Derived.Test.YtdhkdnmefeeclaaV2
set_option linter.unusedSimpArgs false
set_option linter.unusedVariables false
set_option linter.unnecessarySimpa false
set_option linter.unusedSimpArgs false
set_option linter.unusedVariables false
set_option maxRecDepth 100000
set_option maxHeartbeats 4000000
namespace Go.Proofs.Ytdhkdnmefeeclaa
open Go Go.Am Go.Proofs Go.RowKit Go.Off

/-- A row of fractions as the document has it. -/
def fD (q : Rat) : List CV := [.str (decZ q.num), .str (dec q.den)]
abbrev DV := Option (List Rat)
abbrev aD (x : DV) : AV := .one (.c (encSl 2 fD x))
def dAt (x : DV) (i : Nat) : Rat := (osl x).getD i 0
def dAtI (x : DV) (k : Int) : Rat := if 0 ≤ k then dAt x k.toNat else 0
theorem dAt_in {x : DV} {i : Nat} (h : i < (osl x).length) : dAt x i = (osl x)[i] := by
  simp only [dAt, List.getD_eq_getElem?_getD]; rw [List.getElem?_eq_getElem h]; rfl
theorem dAt_out {x : DV} {i : Nat} (h : (osl x).length ≤ i) : dAt x i = 0 := by
  simp only [dAt, List.getD_eq_getElem?_getD]; rw [List.getElem?_eq_none_iff.2 h]; rfl
theorem dec_one : dec 1 = [49] := by have h := dec_eq_one 1; simpa using h
theorem decZ_zero : decZ 0 = [48] := rfl

/-- A row whose fractions are short. -/
def FitsD (x : DV) (n L : Nat) : Prop := (osl x).length ≤ n ∧ ∀ q ∈ osl x, FitsQ q L
theorem FitsD.at {x : DV} {n L : Nat} (h : FitsD x n L) (hL : 1 ≤ L) (i : Nat) : FitsQ (dAt x i) L := by
  by_cases hi : i < (osl x).length
  · rw [dAt_in hi]; exact h.2 _ (List.getElem_mem hi)
  · rw [dAt_out (by omega)]; exact fitsQ_zero L hL

theorem encB_snoc_D (l : List Rat) (q : Rat) : encB fD l ++ [[Cell.c (.str (decZ q.num)), Cell.c (.str (dec q.den))]] = encB fD (l ++ [q]) := by simp [encB, fD]

def rowD (a : VV) : List Rat := (osl a).map RR.val
theorem rowD_len (a : VV) : (rowD a).length = (osl a).length := by simp [rowD]
theorem dAt_rowD (a : VV) (i : Nat) : dAt (rowO (rowD a)) i = qAt a i := by
  unfold dAt
  rw [osl_rowO]
  unfold rowD qAt rAt
  simp only [List.getD_eq_getElem?_getD, List.getElem?_map]
  cases (osl a)[i]? with
  | none => exact zR_val.symm
  | some r => rfl
theorem fitsD_rowD {a : VV} {n L : Nat} (h : FitsV a n L) (hL : 1 ≤ L) : FitsD (rowO (rowD a)) n L := by
  refine ⟨by rw [osl_rowO, rowD_len]; exact h.1, fun q hq => ?_⟩
  rw [osl_rowO] at hq
  obtain ⟨r, hr, rfl⟩ := List.mem_map.1 hq
  exact (h.2 r hr).val hL

abbrev c31_k1 : CC := (.seq (.reg [⟨(some 18), none, (.mv (.tmp 3))⟩, ⟨(some 2), none, (.mv (.tmp 18))⟩]) .ret)
abbrev c31_b1 : CC := (.seq (.reg [⟨(some 9), none, (.bin .lss (.tmp 8) (.tmp 7))⟩]) (.seq (.cond (.tmp 9) .skip (.exit 0)) (.seq (.block 1 (.seq (.reg [⟨(some 10), none, (.iaddr 3 none (.tmp 6) (.tmp 8))⟩, ⟨(some 11), none, (.load 3 true (.tmp 10))⟩, ⟨(some 5), none, (.new 40 [(.bool false), (.slice none 0 0), (.slice none 0 0)])⟩, ⟨none, none, (.store 3 (.tmp 5) (.tmp 11))⟩]) (.reg [⟨(some 12), none, (.mv (.tmp 3))⟩, ⟨(some 13), none, (.load 3 true (.tmp 5))⟩, ⟨(some 14), none, (.callf (.func 35) [(.tmp 13)])⟩, ⟨(some 15), none, (.mkrow 33 2 [(.tmp 14)])⟩, ⟨(some 16), none, (.append 33 2 32 (.tmp 12) (.tmp 15))⟩, ⟨(some 3), none, (.mv (.tmp 16))⟩]))) (.reg [⟨(some 17), none, (.bin .add (.tmp 8) (.const (.int .i64 (1))))⟩, ⟨(some 8), none, (.mv (.tmp 17))⟩]))))
abbrev c31 : CC := (.seq (.reg [⟨(some 2), none, (.mv (.const (.slice none 0 0)))⟩]) (.seq (.reg [⟨(some 3), none, (.mv (.const (.slice none 0 0)))⟩]) (.seq (.seq (.reg [⟨(some 6), none, (.mv (.tmp 0))⟩, ⟨(some 7), none, (.len false (.tmp 6))⟩, ⟨(some 8), none, (.mv (.const (.int .i64 (0))))⟩]) (.block 0 (.loop c31_b1))) c31_k1)))
theorem cc31 : ccode Try.prog [] (Try.f31.body.getD .skip) = some c31 := by kernel_rfl
theorem body31 : Try.f31.body = some (Try.f31.body.getD .skip) := rfl

theorem row_C (a : VV) (n L : Nat) (ha : FitsV a n L) (hn : n ≤ 1000000) (hL2 : L ≤ 1000000) : PureC Try.prog 31 [aV a] (.ret (aD (rowO (rowD a)))) := by
  have ha1 := ha.1
  refine PureC.fresh_rowO (ty := 33) ?_
  refine pureC_of (rs := [(RV.tmp 2)]) Try.func31 (fun a w => Try.call31 a w) body31 cc31 (by kernel_rfl) ?_
  rw [Try.ntmps31]
  simp only [frs, Nat.reduceAdd, Nat.reduceSub]
  repeat (first | (with_reducible first | refine Way.imp ?_ | refine blk_o rfl ?_) | ((with_reducible refine WayR.imp (fun K hK => ?_)); simp (disch := first | omega | (simp only [dls]; omega)) only [std, reduceIte, reduceCtorEq, Int.reduceToNat, Nat.reduceAdd, Nat.reduceSub, Nat.reduceMul, Int.reduceAdd, Int.reduceSub, Int.reduceMul, Int.reduceNeg, fU]; subst hK))
  refine AWp.fgt ?_ (Fgt.openNil (i := 3) rfl 33 2)
  simp only [List.set_cons_succ, List.set_cons_zero, List.length_nil, List.length_cons, List.nil_append, List.cons_append, Nat.reduceAdd]
  refine awp_loop (fun (zz : Nat × (List Rat) × Nat × Bool) => ⟨(aV a :: .junk :: .one (.c (.val (.slice none 0 0))) :: .one (.own 0 zz.2.2.1) :: .junk :: .junk :: aV a :: aI (osl a).length :: aI zz.1 :: .junk :: .junk :: .junk :: .junk :: .junk :: .junk :: .junk :: .junk :: .junk :: .junk :: []), [⟨zz.2.2.1, 33, 2, encB fD zz.2.1, true, zz.2.2.2⟩]⟩) (fun (zz : Nat × (List Rat) × Nat × Bool) => zz.1 ≤ (osl a).length ∧ zz.2.1 = ((osl a).take zz.1).map RR.val ∧ zz.2.2.2 = !zz.2.1.isEmpty) (fun (zz : Nat × (List Rat) × Nat × Bool) => (osl a).length - zz.1) (0, [], 0, false) ?hI1 (Fgt.head (Nat.zero_le 1) [true, false, true, true, false, false, true, true, true] ?hT1 ?hH1) ?hB1
  case hT1 => first | (simp (disch := omega) only [hds, liveT, cleanAV, cleanCell, clean1, cleanBlk, reduceIte, Int.reduceSub, Int.reduceAdd, Int.reduceNeg, encB_nil]; done) | rfl
  case hH1 => first | (simp (disch := omega) only [hds, liveT, cleanAV, cleanCell, clean1, cleanBlk, reduceIte, Int.reduceSub, Int.reduceAdd, Int.reduceNeg, encB_nil]; done) | rfl
  · dsimp only; exact ⟨by omega, rfl, rfl⟩
  rintro ⟨i, out, v, nn⟩ ⟨hi, ho, hnn⟩
  dsimp only at hi ho hnn
  by_cases him : i = (osl a).length
  · repeat (first | (with_reducible first | refine Way.imp ?_ | refine blk_o rfl ?_) | ((with_reducible refine WayR.imp (fun K hK => ?_)); simp (disch := first | omega | (simp only [dls]; omega)) only [std, reduceIte, reduceCtorEq, Int.reduceToNat, Nat.reduceAdd, Nat.reduceSub, Nat.reduceMul, Int.reduceAdd, Int.reduceSub, Int.reduceMul, Int.reduceNeg, fU]; subst hK))
    refine ⟨_, rfl, ?_⟩
    rw [him, List.take_length] at ho
    have he : (!(rowD a).isEmpty) = nn := by rw [hnn, ho]; rfl
    rw [he, show rowD a = out from ho.symm]
    exact Ends.fresh_enc rfl
  · have hlt : i < (osl a).length := by omega
    have hof := lof_C (osl a)[i] ((ha.2 _ (List.getElem_mem hlt)).mono (by omega))
    have hol : out.length = i := by rw [ho, List.length_map, List.length_take]; omega
    repeat (first | (with_reducible first | refine Way.imp ?_ | refine blk_o rfl ?_) | ((with_reducible refine WayR.imp (fun K hK => ?_)); simp (disch := first | omega | (simp only [dls]; omega)) only [std, reduceIte, reduceCtorEq, Int.reduceToNat, Nat.reduceAdd, Nat.reduceSub, Nat.reduceMul, Int.reduceAdd, Int.reduceSub, Int.reduceMul, Int.reduceNeg, fU, fR]; subst hK) | refine zcA (hof) rfl rfl rfl ?_)
    refine ⟨(i + 1, out ++ [(osl a)[i].val], v + 1, true), ?hI2, ?hM2, Fgt.head (Nat.zero_le 1) [true, false, true, true, false, false, true, true, true] ?hT2 ?hH2⟩
    case hT2 => first | (simp (disch := omega) only [hds, liveT, cleanAV, cleanCell, clean1, cleanBlk, reduceIte, Int.reduceSub, Int.reduceAdd, Int.reduceNeg, encB_snoc_D, List.isEmpty_cons, Bool.or_true, Bool.not_false]; done) | rfl
    case hH2 => first | (simp (disch := omega) only [hds, liveT, cleanAV, cleanCell, clean1, cleanBlk, reduceIte, Int.reduceSub, Int.reduceAdd, Int.reduceNeg, encB_snoc_D, List.isEmpty_cons, Bool.or_true, Bool.not_false]; done) | rfl
    · dsimp only
      refine ⟨by omega, ?_, by simp⟩
      rw [ho, List.take_succ_eq_append_getElem hlt, List.map_append]
      rfl
    · dsimp only; omega

abbrev c42_k1 : CC := (.seq (.reg [⟨(some 4), none, (.mv (.const (.bool true)))⟩]) .ret)
abbrev c42_b1 : CC := (.seq (.reg [⟨(some 14), none, (.bin .lss (.tmp 13) (.tmp 12))⟩]) (.seq (.cond (.tmp 14) .skip (.exit 0)) (.seq (.block 1 (.seq (.reg [⟨(some 15), none, (.mv (.tmp 13))⟩, ⟨(some 5), none, (.mv (.tmp 15))⟩]) (.seq (.reg [⟨(some 16), none, (.mv (.tmp 0))⟩, ⟨(some 17), none, (.mv (.tmp 5))⟩, ⟨(some 18), none, (.iaddr 3 none (.tmp 16) (.tmp 17))⟩, ⟨(some 19), none, (.load 3 true (.tmp 18))⟩, ⟨(some 20), none, (.mv (.tmp 1))⟩, ⟨(some 21), none, (.mv (.tmp 5))⟩, ⟨(some 22), none, (.iaddr 2 none (.tmp 20) (.tmp 21))⟩, ⟨(some 23), none, (.load 2 true (.tmp 22))⟩, ⟨(some 24), none, (.callf (.func 32) [(.tmp 19), (.tmp 23)])⟩, ⟨(some 25), none, (.un .not (.tmp 24))⟩]) (.cond (.tmp 25) (.seq (.reg [⟨(some 4), none, (.mv (.const (.bool false)))⟩]) .ret) .skip)))) (.reg [⟨(some 26), none, (.bin .add (.tmp 13) (.const (.int .i64 (1))))⟩, ⟨(some 13), none, (.mv (.tmp 26))⟩]))))
abbrev c42 : CC := (.seq (.reg [⟨(some 4), none, (.mv (.const (.bool false)))⟩]) (.seq (.seq (.reg [⟨(some 6), none, (.mv (.tmp 0))⟩, ⟨(some 7), none, (.len false (.tmp 6))⟩, ⟨(some 8), none, (.mv (.tmp 1))⟩, ⟨(some 9), none, (.len false (.tmp 8))⟩, ⟨(some 10), none, (.bin .neq (.tmp 7) (.tmp 9))⟩]) (.cond (.tmp 10) (.seq (.reg [⟨(some 4), none, (.mv (.const (.bool false)))⟩]) .ret) .skip)) (.seq (.seq (.reg [⟨(some 11), none, (.mv (.tmp 0))⟩, ⟨(some 12), none, (.len false (.tmp 11))⟩, ⟨(some 13), none, (.mv (.const (.int .i64 (0))))⟩]) (.block 0 (.loop c42_b1))) c42_k1)))
theorem cc42 : ccode Try.prog [] (Try.f42.body.getD .skip) = some c42 := by kernel_rfl
theorem body42 : Try.f42.body = some (Try.f42.body.getD .skip) := rfl

theorem rows_C (l : List Rat) (hn : l.length ≤ 1000000) (hl : ∀ q ∈ l, FitsQ q 9000000) : PureC Try.prog 42 [aV (rowO (l.map rawQ)), aD (rowO l)] (.ret (aB true)) := by
  have e1 : (osl (rowO (l.map rawQ))).length = l.length := by rw [osl_rowO, List.length_map]
  have e2 : (osl (rowO l)).length = l.length := by rw [osl_rowO]
  have g1 : ∀ i (h : i < (osl (rowO (l.map rawQ))).length), (osl (rowO (l.map rawQ)))[i] = rawQ (l[i]'(by rw [e1] at h; exact h)) := fun i h => by simp only [osl_rowO, List.getElem_map]
  have g2 : ∀ i (h : i < (osl (rowO l)).length), (osl (rowO l))[i] = l[i]'(by rw [e2] at h; exact h) := fun i h => by simp only [osl_rowO]
  generalize rowO (l.map rawQ) = a at *
  generalize rowO l = x at *
  refine pureC_of (rs := [(RV.tmp 4)]) Try.func42 (fun a w => Try.call42 a w) body42 cc42 (by kernel_rfl) ?_
  rw [Try.ntmps42]
  simp only [frs, Nat.reduceAdd, Nat.reduceSub]
  repeat (first | (with_reducible first | refine Way.imp ?_ | refine blk_o rfl ?_) | ((with_reducible refine WayR.imp (fun K hK => ?_)); simp (disch := first | omega | (simp only [dls]; omega)) only [std, reduceIte, reduceCtorEq, Int.reduceToNat, Nat.reduceAdd, Nat.reduceSub, Nat.reduceMul, Int.reduceAdd, Int.reduceSub, Int.reduceMul, Int.reduceNeg, fU, e1, e2]; subst hK))
  refine awp_loop (fun (zz : Nat) => ⟨(aV a :: aD x :: .junk :: .junk :: aB false :: .junk :: .junk :: .junk :: .junk :: .junk :: .junk :: aV a :: aI (l.length : Int) :: aI zz :: .junk :: .junk :: .junk :: .junk :: .junk :: .junk :: .junk :: .junk :: .junk :: .junk :: .junk :: .junk :: .junk :: []), []⟩) (fun (zz : Nat) => zz ≤ l.length) (fun (zz : Nat) => l.length - zz) (0) ?hI3 (Fgt.head (Nat.le_refl _) [true, true, false, false, true, false, false, false, false, false, false, true, true, true] ?hT3 ?hH3) ?hB3
  case hT3 => first | (simp (disch := omega) only [hds, liveT, cleanAV, cleanCell, clean1, cleanBlk, reduceIte, Int.reduceSub, Int.reduceAdd, Int.reduceNeg]; done) | rfl
  case hH3 => first | (simp (disch := omega) only [hds, liveT, cleanAV, cleanCell, clean1, cleanBlk, reduceIte, Int.reduceSub, Int.reduceAdd, Int.reduceNeg]; done) | rfl
  · exact Nat.zero_le _
  intro i hi
  by_cases him : i = l.length
  · repeat (first | (with_reducible first | refine Way.imp ?_ | refine blk_o rfl ?_) | ((with_reducible refine WayR.imp (fun K hK => ?_)); simp (disch := first | omega | (simp only [dls]; omega)) only [std, reduceIte, reduceCtorEq, Int.reduceToNat, Nat.reduceAdd, Nat.reduceSub, Nat.reduceMul, Int.reduceAdd, Int.reduceSub, Int.reduceMul, Int.reduceNeg, fU]; subst hK))
    exact ⟨_, rfl, rfl⟩
  · have hlt : i < l.length := by omega
    have h1 : i < (osl a).length := by omega
    have h2 : i < (osl x).length := by omega
    have his := is_C l[i] l[i] (hl _ (List.getElem_mem hlt))
    rw [decide_eq_true rfl] at his
    have k1 := g1 i h1
    have k2 := g2 i h2
    generalize rawQ l[i] = ri at *
    generalize l[i] = qi at *
    repeat (first | (with_reducible first | refine Way.imp ?_ | refine blk_o rfl ?_) | ((with_reducible refine WayR.imp (fun K hK => ?_)); simp (disch := first | omega | (simp only [dls]; omega)) only [std, reduceIte, reduceCtorEq, Int.reduceToNat, Nat.reduceAdd, Nat.reduceSub, Nat.reduceMul, Int.reduceAdd, Int.reduceSub, Int.reduceMul, Int.reduceNeg, fU, fR, fD, k1, k2]; subst hK) | refine zcA (his) rfl rfl rfl ?_)
    refine ⟨(i + 1), ?hI4, ?hM4, Fgt.head (Nat.le_refl _) [true, true, false, false, true, false, false, false, false, false, false, true, true, true] ?hT4 ?hH4⟩
    case hT4 => first | (simp (disch := omega) only [hds, liveT, cleanAV, cleanCell, clean1, cleanBlk, reduceIte, Int.reduceSub, Int.reduceAdd, Int.reduceNeg]; done) | rfl
    case hH4 => first | (simp (disch := omega) only [hds, liveT, cleanAV, cleanCell, clean1, cleanBlk, reduceIte, Int.reduceSub, Int.reduceAdd, Int.reduceNeg]; done) | rfl
    · exact Nat.succ_le_of_lt hlt
    · show l.length - (i + 1) < l.length - i; omega

end Go.Proofs.Ytdhkdnmefeeclaa
