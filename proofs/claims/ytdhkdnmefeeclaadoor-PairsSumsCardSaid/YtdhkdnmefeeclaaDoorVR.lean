/- Rows as the document has them; offcutlaw05.Row, Rows. -/
import Derived.Test.YtdhkdnmefeeclaaDoorF2
import Derived.Test.YtdhkdnmefeeclaaDoorVD
set_option linter.unusedSimpArgs false
set_option linter.unusedVariables false
set_option linter.unnecessarySimpa false
set_option linter.unusedSimpArgs false
set_option linter.unusedVariables false
set_option maxRecDepth 100000
set_option maxHeartbeats 4000000
namespace Go.Proofs.YtdhkdnmefeeclaaDoor
open Go Go.Am Go.Proofs Go.RowKit Go.Off

/-- A row of fractions as the document has it. -/
def fD (q : Rat) : List CV := [.str (decZ q.num), .str (dec q.den)]
abbrev DV := Option (List Rat)
abbrev aD (x : DV) : AV := .one (.c (encSl 2 fD x))
def dAt (x : DV) (i : Nat) : Rat := (osl x).getD i 0
def dAtI (x : DV) (k : Int) : Rat := if 0 ≤ k then dAt x k.toNat else 0
theorem dAt_in {x : DV} {i : Nat} (h : i < (osl x).length) : dAt x i = (osl x)[i] := by
  simp only [dAt, List.getD_eq_getElem?_getD]; rw [List.getElem?_eq_getElem h]; rfl
theorem dAt_out {x : DV} {i : Nat} (h : (osl x).length ≤ i) : dAt x i = 0 := by
  simp only [dAt, List.getD_eq_getElem?_getD]; rw [List.getElem?_eq_none_iff.2 h]; rfl
theorem dec_one : dec 1 = [49] := by have h := dec_eq_one 1; simpa using h
theorem decZ_zero : decZ 0 = [48] := rfl

/-- A row whose fractions are short. -/
def FitsD (x : DV) (n L : Nat) : Prop := (osl x).length ≤ n ∧ ∀ q ∈ osl x, FitsQ q L
theorem FitsD.at {x : DV} {n L : Nat} (h : FitsD x n L) (hL : 1 ≤ L) (i : Nat) : FitsQ (dAt x i) L := by
  by_cases hi : i < (osl x).length
  · rw [dAt_in hi]; exact h.2 _ (List.getElem_mem hi)
  · rw [dAt_out (by omega)]; exact fitsQ_zero L hL

theorem encB_snoc_D (l : List Rat) (q : Rat) : encB fD l ++ [[Cell.c (.str (decZ q.num)), Cell.c (.str (dec q.den))]] = encB fD (l ++ [q]) := by simp [encB, fD]

def rowD (a : VV) : List Rat := (osl a).map RR.val
theorem rowD_len (a : VV) : (rowD a).length = (osl a).length := by simp [rowD]
theorem dAt_rowD (a : VV) (i : Nat) : dAt (rowO (rowD a)) i = qAt a i := by
  unfold dAt
  rw [osl_rowO]
  unfold rowD qAt rAt
  simp only [List.getD_eq_getElem?_getD, List.getElem?_map]
  cases (osl a)[i]? with
  | none => exact zR_val.symm
  | some r => rfl
theorem fitsD_rowD {a : VV} {n L : Nat} (h : FitsV a n L) (hL : 1 ≤ L) : FitsD (rowO (rowD a)) n L := by
  refine ⟨by rw [osl_rowO, rowD_len]; exact h.1, fun q hq => ?_⟩
  rw [osl_rowO] at hq
  obtain ⟨r, hr, rfl⟩ := List.mem_map.1 hq
  exact (h.2 r hr).val hL

abbrev c45_k1 : CC := (.seq (.reg [⟨(some 18), none, (.mv (.tmp 3))⟩, ⟨(some 2), none, (.mv (.tmp 18))⟩]) .ret)
abbrev c45_b1 : CC := (.seq (.reg [⟨(some 9), none, (.bin .lss (.tmp 8) (.tmp 7))⟩]) (.seq (.cond (.tmp 9) .skip (.exit 0)) (.seq (.block 1 (.seq (.reg [⟨(some 10), none, (.iaddr 3 none (.tmp 6) (.tmp 8))⟩, ⟨(some 11), none, (.load 3 true (.tmp 10))⟩, ⟨(some 5), none, (.new 45 [(.bool false), (.slice none 0 0), (.slice none 0 0)])⟩, ⟨none, none, (.store 3 (.tmp 5) (.tmp 11))⟩]) (.reg [⟨(some 12), none, (.mv (.tmp 3))⟩, ⟨(some 13), none, (.load 3 true (.tmp 5))⟩, ⟨(some 14), none, (.callf (.func 50) [(.tmp 13)])⟩, ⟨(some 15), none, (.mkrow 28 2 [(.tmp 14)])⟩, ⟨(some 16), none, (.append 28 2 32 (.tmp 12) (.tmp 15))⟩, ⟨(some 3), none, (.mv (.tmp 16))⟩]))) (.reg [⟨(some 17), none, (.bin .add (.tmp 8) (.const (.int .i64 (1))))⟩, ⟨(some 8), none, (.mv (.tmp 17))⟩]))))
abbrev c45 : CC := (.seq (.reg [⟨(some 2), none, (.mv (.const (.slice none 0 0)))⟩]) (.seq (.reg [⟨(some 3), none, (.mv (.const (.slice none 0 0)))⟩]) (.seq (.seq (.reg [⟨(some 6), none, (.mv (.tmp 0))⟩, ⟨(some 7), none, (.len false (.tmp 6))⟩, ⟨(some 8), none, (.mv (.const (.int .i64 (0))))⟩]) (.block 0 (.loop c45_b1))) c45_k1)))
theorem cc45 : ccode Tryd.prog [] (Tryd.f45.body.getD .skip) = some c45 := by kernel_rfl
theorem body45 : Tryd.f45.body = some (Tryd.f45.body.getD .skip) := rfl

theorem row_C (a : VV) (n L : Nat) (ha : FitsV a n L) (hn : n ≤ 1000000) (hL2 : L ≤ 1000000) : PureC Tryd.prog 45 [aV a] (.ret (aD (rowO (rowD a)))) := by
  have ha1 := ha.1
  refine PureC.fresh_rowO (ty := 28) ?_
  refine pureC_of (rs := [(RV.tmp 2)]) Tryd.func45 (fun a w => Tryd.call45 a w) body45 cc45 (by kernel_rfl) ?_
  rw [Tryd.ntmps45]
  simp only [frs, Nat.reduceAdd, Nat.reduceSub]
  repeat (first | (with_reducible first | refine Way.imp ?_ | refine blk_o rfl ?_) | ((with_reducible refine WayR.imp (fun K hK => ?_)); simp (disch := first | omega | (simp only [dls]; omega)) only [std, reduceIte, reduceCtorEq, Int.reduceToNat, Nat.reduceAdd, Nat.reduceSub, Nat.reduceMul, Int.reduceAdd, Int.reduceSub, Int.reduceMul, Int.reduceNeg, fU]; subst hK))
  refine AWp.fgt ?_ (Fgt.openNil (i := 3) rfl 28 2)
  simp only [List.set_cons_succ, List.set_cons_zero, List.length_nil, List.length_cons, List.nil_append, List.cons_append, Nat.reduceAdd]
  refine awp_loop (fun (zz : Nat × (List Rat) × Nat × Bool) => ⟨(aV a :: .junk :: .one (.c (.val (.slice none 0 0))) :: .one (.own 0 zz.2.2.1) :: .junk :: .junk :: aV a :: aI (osl a).length :: aI zz.1 :: .junk :: .junk :: .junk :: .junk :: .junk :: .junk :: .junk :: .junk :: .junk :: .junk :: []), [⟨zz.2.2.1, 28, 2, encB fD zz.2.1, true, zz.2.2.2⟩]⟩) (fun (zz : Nat × (List Rat) × Nat × Bool) => zz.1 ≤ (osl a).length ∧ zz.2.1 = ((osl a).take zz.1).map RR.val ∧ zz.2.2.2 = !zz.2.1.isEmpty) (fun (zz : Nat × (List Rat) × Nat × Bool) => (osl a).length - zz.1) (0, [], 0, false) ?hI1 (Fgt.head (Nat.zero_le 1) [true, false, true, true, false, false, true, true, true] ?hT1 ?hH1) ?hB1
  case hT1 => first | (simp (disch := omega) only [hds, liveT, cleanAV, cleanCell, clean1, cleanBlk, reduceIte, Int.reduceSub, Int.reduceAdd, Int.reduceNeg, encB_nil]; done) | rfl
  case hH1 => first | (simp (disch := omega) only [hds, liveT, cleanAV, cleanCell, clean1, cleanBlk, reduceIte, Int.reduceSub, Int.reduceAdd, Int.reduceNeg, encB_nil]; done) | rfl
  · dsimp only; exact ⟨by omega, rfl, rfl⟩
  rintro ⟨i, out, v, nn⟩ ⟨hi, ho, hnn⟩
  dsimp only at hi ho hnn
  by_cases him : i = (osl a).length
  · repeat (first | (with_reducible first | refine Way.imp ?_ | refine blk_o rfl ?_) | ((with_reducible refine WayR.imp (fun K hK => ?_)); simp (disch := first | omega | (simp only [dls]; omega)) only [std, reduceIte, reduceCtorEq, Int.reduceToNat, Nat.reduceAdd, Nat.reduceSub, Nat.reduceMul, Int.reduceAdd, Int.reduceSub, Int.reduceMul, Int.reduceNeg, fU]; subst hK))
    refine ⟨_, rfl, ?_⟩
    rw [him, List.take_length] at ho
    have he : (!(rowD a).isEmpty) = nn := by rw [hnn, ho]; rfl
    rw [he, show rowD a = out from ho.symm]
    exact Ends.fresh_enc rfl
  · have hlt : i < (osl a).length := by omega
    have hof := lof_C (osl a)[i] ((ha.2 _ (List.getElem_mem hlt)).mono (by omega))
    have hol : out.length = i := by rw [ho, List.length_map, List.length_take]; omega
    repeat (first | (with_reducible first | refine Way.imp ?_ | refine blk_o rfl ?_) | ((with_reducible refine WayR.imp (fun K hK => ?_)); simp (disch := first | omega | (simp only [dls]; omega)) only [std, reduceIte, reduceCtorEq, Int.reduceToNat, Nat.reduceAdd, Nat.reduceSub, Nat.reduceMul, Int.reduceAdd, Int.reduceSub, Int.reduceMul, Int.reduceNeg, fU, fR]; subst hK) | refine zcA (hof) rfl rfl rfl ?_)
    refine ⟨(i + 1, out ++ [(osl a)[i].val], v + 1, true), ?hI2, ?hM2, Fgt.head (Nat.zero_le 1) [true, false, true, true, false, false, true, true, true] ?hT2 ?hH2⟩
    case hT2 => first | (simp (disch := omega) only [hds, liveT, cleanAV, cleanCell, clean1, cleanBlk, reduceIte, Int.reduceSub, Int.reduceAdd, Int.reduceNeg, encB_snoc_D, List.isEmpty_cons, Bool.or_true, Bool.not_false]; done) | rfl
    case hH2 => first | (simp (disch := omega) only [hds, liveT, cleanAV, cleanCell, clean1, cleanBlk, reduceIte, Int.reduceSub, Int.reduceAdd, Int.reduceNeg, encB_snoc_D, List.isEmpty_cons, Bool.or_true, Bool.not_false]; done) | rfl
    · dsimp only
      refine ⟨by omega, ?_, by simp⟩
      rw [ho, List.take_succ_eq_append_getElem hlt, List.map_append]
      rfl
    · dsimp only; omega

end Go.Proofs.YtdhkdnmefeeclaaDoor
