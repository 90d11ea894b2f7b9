/- Walks of offcutlaw06: rows. -/
import Derived.Test.YtdhkdnmefeeclaaB3
import Derived.Test.YtdhkdnmefeeclaaF2
import Derived.Test.YtdhkdnmefeeclaaL1
import Derived.Test.YtdhkdnmefeeclaaM2
import Derived.Test.YtdhkdnmefeeclaaM3
set_option linter.unusedSimpArgs false
set_option linter.unusedVariables false
set_option linter.unnecessarySimpa false
set_option linter.unusedSimpArgs false
set_option linter.unusedVariables false
set_option maxRecDepth 100000
set_option maxHeartbeats 4000000
namespace Go.Proofs.Ytdhkdnmefeeclaa
open Go Go.Am Go.Proofs Go.RowKit Go.Off

/-- A matrix as the document has it. -/
def fDM (d : Option (List Rat)) : List CV := [encSl 2 fD d]
abbrev aDM (x : Option (List (Option (List Rat)))) : AV := .one (.c (encSl 1 fDM x))
abbrev DMM := List (Option (List Rat))
def rowsD (m : MM) : List (Option (List Rat)) := (osl m).map fun v => rowO (rowD v)
theorem encB_snoc_DM (l : List (Option (List Rat))) (d : Option (List Rat)) : encB fDM l ++ [[Cell.c (encSl 2 fD d)]] = encB fDM (l ++ [d]) := by simp [encB, fDM]

abbrev c62_k1 : CC := (.seq (.reg [⟨(some 18), none, (.mv (.tmp 3))⟩, ⟨(some 2), none, (.mv (.tmp 18))⟩]) .ret)
abbrev c62_b1 : CC := (.seq (.reg [⟨(some 9), none, (.bin .lss (.tmp 8) (.tmp 7))⟩]) (.seq (.cond (.tmp 9) .skip (.exit 0)) (.seq (.block 1 (.seq (.reg [⟨(some 10), none, (.iaddr 1 none (.tmp 6) (.tmp 8))⟩, ⟨(some 11), none, (.load 1 false (.tmp 10))⟩, ⟨(some 5), none, (.mv (.tmp 11))⟩]) (.reg [⟨(some 12), none, (.mv (.tmp 3))⟩, ⟨(some 13), none, (.mv (.tmp 5))⟩, ⟨(some 14), none, (.callf (.func 31) [(.tmp 13)])⟩, ⟨(some 15), none, (.mkrow 30 1 [(.tmp 14)])⟩, ⟨(some 16), none, (.append 30 1 24 (.tmp 12) (.tmp 15))⟩, ⟨(some 3), none, (.mv (.tmp 16))⟩]))) (.reg [⟨(some 17), none, (.bin .add (.tmp 8) (.const (.int .i64 (1))))⟩, ⟨(some 8), none, (.mv (.tmp 17))⟩]))))
abbrev c62 : CC := (.seq (.reg [⟨(some 2), none, (.mv (.const (.slice none 0 0)))⟩]) (.seq (.reg [⟨(some 3), none, (.mv (.const (.slice none 0 0)))⟩]) (.seq (.seq (.reg [⟨(some 6), none, (.mv (.tmp 0))⟩, ⟨(some 7), none, (.len false (.tmp 6))⟩, ⟨(some 8), none, (.mv (.const (.int .i64 (0))))⟩]) (.block 0 (.loop c62_b1))) c62_k1)))
theorem cc62 : ccode Try.prog [] (Try.f62.body.getD .skip) = some c62 := by kernel_rfl
theorem body62 : Try.f62.body = some (Try.f62.body.getD .skip) := rfl

theorem lrows_C (m : MM) (n L : Nat) (hm : FitsM m n L) (hn : n ≤ 1000000) (hL2 : L ≤ 1000000) : PureC Try.prog 62 [aM m] (.ret (aDM (rowO (rowsD m)))) := by
  have hm1 := hm.1
  refine PureC.fresh_rowO (ty := 30) ?_
  refine pureC_of (rs := [(RV.tmp 2)]) Try.func62 (fun a w => Try.call62 a w) body62 cc62 (by kernel_rfl) ?_
  rw [Try.ntmps62]
  simp only [frs, Nat.reduceAdd, Nat.reduceSub]
  repeat (first | (with_reducible first | refine Way.imp ?_ | refine blk_o rfl ?_) | ((with_reducible refine WayR.imp (fun K hK => ?_)); simp (disch := first | omega | (simp only [dls]; omega)) only [std, reduceIte, reduceCtorEq, Int.reduceToNat, Nat.reduceAdd, Nat.reduceSub, Nat.reduceMul, Int.reduceAdd, Int.reduceSub, Int.reduceMul, Int.reduceNeg, fU]; subst hK))
  refine AWp.fgt ?_ (Fgt.openNil (i := 3) rfl 30 1)
  simp only [List.set_cons_succ, List.set_cons_zero, List.length_nil, List.length_cons, List.nil_append, List.cons_append, Nat.reduceAdd]
  refine awp_loop (fun (zz : Nat × DMM × Nat × Bool) => ⟨(aM m :: .junk :: .junk :: .one (.own 0 zz.2.2.1) :: .junk :: .junk :: aM m :: aI (osl m).length :: aI zz.1 :: .junk :: .junk :: .junk :: .junk :: .junk :: .junk :: .junk :: .junk :: .junk :: .junk :: []), [⟨zz.2.2.1, 30, 1, encB fDM zz.2.1, true, zz.2.2.2⟩]⟩) (fun (zz : Nat × DMM × Nat × Bool) => zz.1 ≤ (osl m).length ∧ zz.2.1 = ((osl m).take zz.1).map (fun r => rowO (rowD r)) ∧ zz.2.2.2 = !zz.2.1.isEmpty) (fun (zz : Nat × DMM × Nat × Bool) => (osl m).length - zz.1) (0, [], 0, false) ?hI1 (Fgt.head (Nat.zero_le 1) [true, false, false, true, false, false, true, true, true] ?hT1 ?hH1) ?hB1
  case hT1 => first | (simp (disch := omega) only [hds, liveT, cleanAV, cleanCell, clean1, cleanBlk, reduceIte, Int.reduceSub, Int.reduceAdd, Int.reduceNeg, encB_nil]; done) | rfl
  case hH1 => first | (simp (disch := omega) only [hds, liveT, cleanAV, cleanCell, clean1, cleanBlk, reduceIte, Int.reduceSub, Int.reduceAdd, Int.reduceNeg, encB_nil]; done) | rfl
  · dsimp only; exact ⟨by omega, rfl, rfl⟩
  rintro ⟨i, out, v, nn⟩ ⟨hi, ho, hnn⟩
  dsimp only at hi ho hnn
  by_cases him : i = (osl m).length
  · repeat (first | (with_reducible first | refine Way.imp ?_ | refine blk_o rfl ?_) | ((with_reducible refine WayR.imp (fun K hK => ?_)); simp (disch := first | omega | (simp only [dls]; omega)) only [std, reduceIte, reduceCtorEq, Int.reduceToNat, Nat.reduceAdd, Nat.reduceSub, Nat.reduceMul, Int.reduceAdd, Int.reduceSub, Int.reduceMul, Int.reduceNeg, fU]; subst hK))
    refine ⟨_, rfl, ?_⟩
    rw [him, List.take_length] at ho
    have he : (!(rowsD m).isEmpty) = nn := by rw [hnn, ho]; rfl
    rw [he, show rowsD m = out from ho.symm]
    exact Ends.fresh_enc rfl
  · have hlt : i < (osl m).length := by omega
    have hrow := row_C (osl m)[i] n L (hm.2 _ (List.getElem_mem hlt)) hn hL2
    have hol : out.length = i := by rw [ho, List.length_map, List.length_take]; omega
    repeat (first | (with_reducible first | refine Way.imp ?_ | refine blk_o rfl ?_) | ((with_reducible refine WayR.imp (fun K hK => ?_)); simp (disch := first | omega | (simp only [dls]; omega)) only [std, reduceIte, reduceCtorEq, Int.reduceToNat, Nat.reduceAdd, Nat.reduceSub, Nat.reduceMul, Int.reduceAdd, Int.reduceSub, Int.reduceMul, Int.reduceNeg, fU, fM]; subst hK) | refine zcA (hrow) rfl rfl rfl ?_)
    refine ⟨(i + 1, out ++ [rowO (rowD (osl m)[i])], v + 1, true), ?hI2, ?hM2, Fgt.head (Nat.zero_le 1) [true, false, false, true, false, false, true, true, true] ?hT2 ?hH2⟩
    case hT2 => first | (simp (disch := omega) only [hds, liveT, cleanAV, cleanCell, clean1, cleanBlk, reduceIte, Int.reduceSub, Int.reduceAdd, Int.reduceNeg, encB_snoc_DM, List.isEmpty_cons, Bool.or_true, Bool.not_false]; done) | rfl
    case hH2 => first | (simp (disch := omega) only [hds, liveT, cleanAV, cleanCell, clean1, cleanBlk, reduceIte, Int.reduceSub, Int.reduceAdd, Int.reduceNeg, encB_snoc_DM, List.isEmpty_cons, Bool.or_true, Bool.not_false]; done) | rfl
    · dsimp only
      refine ⟨by omega, ?_, by simp⟩
      rw [ho, List.take_succ_eq_append_getElem hlt, List.map_append]
      rfl
    · dsimp only; omega

end Go.Proofs.Ytdhkdnmefeeclaa
set_option linter.unusedSimpArgs false
set_option linter.unusedVariables false
set_option maxRecDepth 100000
set_option maxHeartbeats 4000000
namespace Go.Proofs.Ytdhkdnmefeeclaa
open Go Go.Am Go.Proofs Go.RowKit Go.Off

abbrev c121 : CC := (.seq (.reg [⟨(some 1), none, (.box 33 (.tmp 0))⟩, ⟨(some 2), none, (.new 33 [(.string ⟨#[]⟩), (.string ⟨#[]⟩)])⟩]) (.seq (.seq (.reg [⟨(some 3), none, (.faddr 0 (.tmp 1))⟩, ⟨(some 4), none, (.load 1 false (.tmp 3))⟩, ⟨(some 5), none, (.callf (.func 151) [(.tmp 4)])⟩]) (.cond (.tmp 5) (.seq (.reg [⟨(some 6), none, (.faddr 1 (.tmp 1))⟩, ⟨(some 7), none, (.load 1 false (.tmp 6))⟩, ⟨(some 8), none, (.bin .add (.const (.string ⟨#[45]⟩)) (.tmp 7))⟩, ⟨(some 9), none, (.faddr 0 (.tmp 1))⟩, ⟨(some 10), none, (.load 1 false (.tmp 9))⟩, ⟨(some 11), none, (.sslice (.tmp 10) (some (.const (.int .i64 (1)))) none)⟩, ⟨(some 12), none, (.build [(.string ⟨#[]⟩), (.string ⟨#[]⟩)] [(0, (1, (.tmp 8))), (1, (1, (.tmp 11)))])⟩, ⟨none, none, (.store 2 (.tmp 2) (.tmp 12))⟩]) .ret) .skip)) (.seq (.reg [⟨(some 13), none, (.faddr 1 (.tmp 1))⟩, ⟨(some 14), none, (.load 1 false (.tmp 13))⟩, ⟨(some 15), none, (.faddr 0 (.tmp 1))⟩, ⟨(some 16), none, (.load 1 false (.tmp 15))⟩, ⟨(some 17), none, (.build [(.string ⟨#[]⟩), (.string ⟨#[]⟩)] [(0, (1, (.tmp 14))), (1, (1, (.tmp 16)))])⟩, ⟨none, none, (.store 2 (.tmp 2) (.tmp 17))⟩]) .ret)))
theorem cc121 : ccode Try.prog [] (Try.f121.body.getD .skip) = some c121 := by kernel_rfl
theorem body121 : Try.f121.body = some (Try.f121.body.getD .skip) := rfl

theorem turned_C (q : Rat) (h0 : q ≠ 0) (hf : FitsQ q 9000000) : PureC Try.prog 121 [aQ q] (.ret (aQ q⁻¹)) := by
  have hn : q.num ≠ 0 := fun e => h0 (Rat.num_eq_zero.1 e)
  have hb := below_C q.num
  have e1 : (q⁻¹).num = q.num.sign * q.den := Rat.num_inv q
  have e2 : (q⁻¹).den = q.num.natAbs := by rw [Rat.den_inv, if_neg hn]
  have hdp := q.den_pos
  obtain ⟨l1, s1⟩ := short_of hf.1 (by decide)
  obtain ⟨l2, s2⟩ := short_of hf.2 (by decide)
  by_cases h : q.num < 0
  · have hs : (q⁻¹).num < 0 := by rw [e1, Int.sign_eq_neg_one_of_neg h]; omega
    have ha : (q⁻¹).num.natAbs = q.den := by rw [e1, Int.sign_eq_neg_one_of_neg h]; omega
    rw [show decide (q.num < 0) = true from by simp [h], decZ_neg h] at hb
    show PureC _ _ [.agg [.c (.str (decZ q.num)), .c (.str (dec q.den))]] (.ret (.agg [.c (.str (decZ (q⁻¹).num)), .c (.str (dec (q⁻¹).den))]))
    rw [decZ_neg h, decZ_neg hs, ha, e2]
    generalize dec q.den = d at *
    generalize dec q.num.natAbs = z at *
    refine pureC_of (rs := [(RV.cell 2 2 true)]) Try.func121 (fun a w => Try.call121 a w) body121 cc121 (by kernel_rfl) ?_
    rw [Try.ntmps121]
    simp only [frs, Nat.reduceAdd, Nat.reduceSub]
    repeat (first | (with_reducible first | refine Way.imp ?_ | refine blk_o rfl ?_) | ((with_reducible refine WayR.imp (fun K hK => ?_)); simp (disch := first | omega | (simp only [dls]; omega)) only [std, reduceIte, reduceCtorEq, Int.reduceToNat, Nat.reduceAdd, Nat.reduceSub, Nat.reduceMul, Int.reduceAdd, Int.reduceSub, Int.reduceMul, Int.reduceNeg, fU, List.take_length]; subst hK) | refine zcA (hb) rfl rfl rfl ?_)
    exact ⟨_, rfl, rfl⟩
  · have hs : ¬ (q⁻¹).num < 0 := by rw [e1, Int.sign_eq_one_of_pos (by omega)]; omega
    have ha : (q⁻¹).num.natAbs = q.den := by rw [e1, Int.sign_eq_one_of_pos (by omega)]; omega
    rw [show decide (q.num < 0) = false from by simp [h], decZ_pos h] at hb
    show PureC _ _ [.agg [.c (.str (decZ q.num)), .c (.str (dec q.den))]] (.ret (.agg [.c (.str (decZ (q⁻¹).num)), .c (.str (dec (q⁻¹).den))]))
    rw [decZ_pos h, decZ_pos hs, ha, e2]
    generalize dec q.den = d at *
    generalize dec q.num.natAbs = z at *
    refine pureC_of (rs := [(RV.cell 2 2 true)]) Try.func121 (fun a w => Try.call121 a w) body121 cc121 (by kernel_rfl) ?_
    rw [Try.ntmps121]
    simp only [frs, Nat.reduceAdd, Nat.reduceSub]
    repeat (first | (with_reducible first | refine Way.imp ?_ | refine blk_o rfl ?_) | ((with_reducible refine WayR.imp (fun K hK => ?_)); simp (disch := first | omega | (simp only [dls]; omega)) only [std, reduceIte, reduceCtorEq, Int.reduceToNat, Nat.reduceAdd, Nat.reduceSub, Nat.reduceMul, Int.reduceAdd, Int.reduceSub, Int.reduceMul, Int.reduceNeg, fU]; subst hK) | refine zcA (hb) rfl rfl rfl ?_)
    exact ⟨_, rfl, rfl⟩

end Go.Proofs.Ytdhkdnmefeeclaa
set_option linter.unusedSimpArgs false
set_option linter.unusedVariables false
set_option maxRecDepth 100000
set_option maxHeartbeats 4000000
namespace Go.Proofs.Ytdhkdnmefeeclaa
open Go Go.Am Go.Proofs Go.RowKit Go.Off

/-- The numbers of a matrix of the document's. -/
def qD (x : Option DMM) : QM := (osl x).map osl
theorem qD_row (x : Option DMM) {i : Nat} (h : i < (osl x).length) : (qD x).getD i [] = osl (osl x)[i] := by
  unfold qD
  rw [List.getD_eq_getElem?_getD, List.getElem?_map, List.getElem?_eq_getElem h]
  rfl
theorem qD_len (x : Option DMM) : (qD x).length = (osl x).length := by unfold qD; rw [List.length_map]
theorem qD_some (Q : QM) : qD (rowO (Q.map some)) = Q := by
  unfold qD
  rw [osl_rowO, List.map_map]
  conv => rhs; rw [← List.map_id Q]
  exact List.map_congr_left (fun r _ => rfl)
theorem withoutL_len (D : QM) (k : Nat) : (withoutL D k).length = D.length - 1 := by unfold withoutL; rw [List.length_map, List.length_drop]
theorem encBackD (l : List Rat) : (l.map fD).map (fun x => x.map Cell.c) = encB fD l := (encB_eq l).symm

theorem osl_mtake {α : Type} (o : Option (List α)) (k : Nat) : osl (Option.map (fun x => List.take k x) o) = (osl o).take k := by cases o <;> simp [osl]
theorem osl_mdrop {α : Type} (o : Option (List α)) (k : Nat) : osl (Option.map (fun x => List.drop k x) o) = (osl o).drop k := by cases o <;> simp [osl]

abbrev c119_k1 : CC := (.seq (.reg [⟨(some 34), none, (.mv (.tmp 5))⟩, ⟨(some 4), none, (.mv (.tmp 34))⟩]) .ret)
abbrev c119_b1 : CC := (.seq (.seq (.reg [⟨(some 8), none, (.mv (.tmp 6))⟩, ⟨(some 9), none, (.mv (.tmp 0))⟩, ⟨(some 10), none, (.len false (.tmp 9))⟩, ⟨(some 11), none, (.bin .lss (.tmp 8) (.tmp 10))⟩]) (.cond (.tmp 11) .skip (.exit 0))) (.seq (.block 1 (.seq (.reg [⟨(some 14), none, (.mkrow 33 2 [])⟩, ⟨(some 15), none, (.mv (.tmp 0))⟩, ⟨(some 16), none, (.mv (.tmp 6))⟩, ⟨(some 17), none, (.iaddr 1 none (.tmp 15) (.tmp 16))⟩, ⟨(some 18), none, (.load 1 false (.tmp 17))⟩, ⟨(some 19), none, (.mv (.tmp 1))⟩, ⟨(some 20), none, (.slice 2 (.tmp 18) none (some (.tmp 19)) none)⟩, ⟨(some 21), none, (.append 33 2 32 (.tmp 14) (.tmp 20))⟩, ⟨(some 7), none, (.mv (.tmp 21))⟩]) (.reg [⟨(some 22), none, (.mv (.tmp 5))⟩, ⟨(some 23), none, (.mv (.tmp 7))⟩, ⟨(some 24), none, (.mv (.tmp 0))⟩, ⟨(some 25), none, (.mv (.tmp 6))⟩, ⟨(some 26), none, (.iaddr 1 none (.tmp 24) (.tmp 25))⟩, ⟨(some 27), none, (.load 1 false (.tmp 26))⟩, ⟨(some 28), none, (.mv (.tmp 1))⟩, ⟨(some 29), none, (.bin .add (.tmp 28) (.const (.int .i64 (1))))⟩, ⟨(some 30), none, (.slice 2 (.tmp 27) (some (.tmp 29)) none none)⟩, ⟨(some 31), none, (.append 33 2 32 (.tmp 23) (.tmp 30))⟩, ⟨(some 32), none, (.mkrow 30 1 [(.tmp 31)])⟩, ⟨(some 33), none, (.append 30 1 24 (.tmp 22) (.tmp 32))⟩, ⟨(some 5), none, (.mv (.tmp 33))⟩]))) (.reg [⟨(some 12), none, (.mv (.tmp 6))⟩, ⟨(some 13), none, (.bin .add (.tmp 12) (.const (.int .i64 (1))))⟩, ⟨(some 6), none, (.mv (.tmp 13))⟩])))
abbrev c119 : CC := (.seq (.reg [⟨(some 4), none, (.mv (.const (.slice none 0 0)))⟩]) (.seq (.reg [⟨(some 5), none, (.mv (.const (.slice none 0 0)))⟩]) (.seq (.seq (.reg [⟨(some 6), none, (.mv (.const (.int .i64 (1))))⟩]) (.block 0 (.loop c119_b1))) c119_k1)))
theorem cc119 : ccode Try.prog [] (Try.f119.body.getD .skip) = some c119 := by kernel_rfl
theorem body119 : Try.f119.body = some (Try.f119.body.getD .skip) := rfl

theorem without_C (x : Option DMM) (k n m : Nat) (hx : Shp (qD x) (n + 1) (m + 1)) (hk : k < m + 1) (hn : n ≤ 1000) (hm : m ≤ 1000) : PureC Try.prog 119 [aDM x, aI k] (.ret (aDM (rowO ((withoutL (qD x) k).map some)))) := by
  refine PureC.fresh_rowO (ty := 30) ?_
  have hxl : (osl x).length = n + 1 := by rw [← qD_len]; exact hx.1
  refine pureC_of (rs := [(RV.tmp 4)]) Try.func119 (fun a w => Try.call119 a w) body119 cc119 (by kernel_rfl) ?_
  rw [Try.ntmps119]
  simp only [frs, Nat.reduceAdd, Nat.reduceSub]
  repeat (first | (with_reducible first | refine Way.imp ?_ | refine blk_o rfl ?_) | ((with_reducible refine WayR.imp (fun K hK => ?_)); simp (disch := first | omega | (simp only [dls]; omega)) only [std, reduceIte, reduceCtorEq, Int.reduceToNat, Nat.reduceAdd, Nat.reduceSub, Nat.reduceMul, Int.reduceAdd, Int.reduceSub, Int.reduceMul, Int.reduceNeg, fU, constAV_arr]; subst hK))
  refine AWp.fgt ?_ (Fgt.openNil (i := 5) rfl 30 1)
  simp only [List.set_cons_succ, List.set_cons_zero, List.length_nil, List.length_cons, List.nil_append, List.cons_append, Nat.reduceAdd]
  refine awp_loop (fun (zz : Nat × DMM × Nat × Bool) => ⟨(aDM x :: aI k :: .junk :: .junk :: .junk :: .one (.own 0 zz.2.2.1) :: aI zz.1 :: .junk :: .junk :: .junk :: .junk :: .junk :: .junk :: .junk :: .junk :: .junk :: .junk :: .junk :: .junk :: .junk :: .junk :: .junk :: .junk :: .junk :: .junk :: .junk :: .junk :: .junk :: .junk :: .junk :: .junk :: .junk :: .junk :: .junk :: .junk :: []), [⟨zz.2.2.1, 30, 1, encB fDM zz.2.1, true, zz.2.2.2⟩]⟩) (fun (zz : Nat × DMM × Nat × Bool) => 1 ≤ zz.1 ∧ zz.1 ≤ n + 1 ∧ zz.2.1 = ((withoutL (qD x) k).take (zz.1 - 1)).map some ∧ zz.2.2.2 = !zz.2.1.isEmpty) (fun (zz : Nat × DMM × Nat × Bool) => n + 1 - zz.1) (1, [], 0, false) ?hI1 (Fgt.head (Nat.zero_le 1) [true, true, false, false, false, true, true] ?hT1 ?hH1) ?hB1
  case hT1 => first | (simp (disch := omega) only [hds, liveT, cleanAV, cleanCell, clean1, cleanBlk, reduceIte, Int.reduceSub, Int.reduceAdd, Int.reduceNeg, encB_nil]; done) | rfl
  case hH1 => first | (simp (disch := omega) only [hds, liveT, cleanAV, cleanCell, clean1, cleanBlk, reduceIte, Int.reduceSub, Int.reduceAdd, Int.reduceNeg, encB_nil]; done) | rfl
  · dsimp only; exact ⟨Nat.le_refl _, by omega, rfl, rfl⟩
  rintro ⟨i, out, v, nn⟩ ⟨hi1, hi, ho, hnn⟩
  dsimp only at hi1 hi ho hnn
  have hwl : (withoutL (qD x) k).length = n := by rw [withoutL_len, hx.1]; rfl
  by_cases hin : i = n + 1
  · repeat (first | (with_reducible first | refine Way.imp ?_ | refine blk_o rfl ?_) | ((with_reducible refine WayR.imp (fun K hK => ?_)); simp (disch := first | omega | (simp only [dls]; omega)) only [std, reduceIte, reduceCtorEq, Int.reduceToNat, Nat.reduceAdd, Nat.reduceSub, Nat.reduceMul, Int.reduceAdd, Int.reduceSub, Int.reduceMul, Int.reduceNeg, fU, constAV_arr]; subst hK))
    refine ⟨_, rfl, ?_⟩
    rw [hin, Nat.add_sub_cancel, List.take_of_length_le (by omega)] at ho
    rw [← ho, ← hnn]
    exact Ends.fresh_enc rfl
  · have hlt : i < (osl x).length := by omega
    have hrow : (osl (osl x)[i]).length = m + 1 := by rw [← qD_row x hlt]; exact hx.2 i (by omega)
    have hge : (withoutL (qD x) k).getD (i - 1) [] = (osl (osl x)[i]).take k ++ (osl (osl x)[i]).drop (k + 1) := by
      rw [withoutL_row, show i - 1 + 1 = i by omega, qD_row x hlt]
    have hol : out.length = i - 1 := by rw [ho, List.length_map, List.length_take]; omega
    have hk1 : ((k : Int) + 1).toNat = k + 1 := by omega
    repeat (first | (with_reducible first | refine Way.imp ?_ | refine blk_o rfl ?_) | ((with_reducible refine WayR.imp (fun K hK => ?_)); simp (disch := first | omega | (simp only [dls]; omega)) only [std, reduceIte, reduceCtorEq, Int.reduceToNat, Nat.reduceAdd, Nat.reduceSub, Nat.reduceMul, Int.reduceAdd, Int.reduceSub, Int.reduceMul, Int.reduceNeg, fU, constAV_arr, fDM, fD, hrow, hk1, osl_mtake, osl_mdrop, encBackD, List.length_map, List.length_take, List.length_drop, ne_eq, not_false_eq_true]; subst hK))
    have hgs : (withoutL (qD x) k)[i - 1]'(by omega) = (osl (osl x)[i]).take k ++ (osl (osl x)[i]).drop (k + 1) := by
      rw [← hge, List.getD_eq_getElem?_getD, List.getElem?_eq_getElem (by omega)]; rfl
    rw [encB_append]
    generalize (osl (osl x)[i]).take k ++ (osl (osl x)[i]).drop (k + 1) = r at *
    refine ⟨(i + 1, out ++ [some r], v + 1, true), ⟨by dsimp only; omega, by dsimp only; omega, ?_, ?_⟩, by dsimp only; omega, Fgt.trans (Fgt.cellSnoc (b := 0) (c := 1) (f := fDM) (l := out) (g := fD) (r := r) (x := some r) rfl rfl (by decide) rfl (by decide)) ?_⟩
    · dsimp only
      rw [ho, show i + 1 - 1 = (i - 1) + 1 by omega, List.take_succ_eq_append_getElem (by omega), List.map_append, hgs]
      rfl
    · dsimp only; cases out <;> rfl
    · rw [freeze_from]
      simp only [fzl, Nat.reduceBEq, Nat.reduceAdd, Bool.false_eq_true, if_true, if_false, reduceIte, List.set_cons_zero]
      refine Fgt.head (Nat.zero_le 1) [true, true, false, false, false, true, true] ?hT2 ?hH2
      case hT2 => first | (simp (disch := omega) only [hds, liveT, cleanAV, cleanCell, clean1, cleanBlk, reduceIte, Int.reduceSub, Int.reduceAdd, Int.reduceNeg, List.isEmpty_cons, Bool.or_true, Bool.not_false]; done) | rfl
      case hH2 => first | (simp (disch := omega) only [hds, liveT, cleanAV, cleanCell, clean1, cleanBlk, reduceIte, Int.reduceSub, Int.reduceAdd, Int.reduceNeg, List.isEmpty_cons, Bool.or_true, Bool.not_false]; done) | rfl

/-- How long a determinant's numbers are. -/
def detB (L : Nat) : Nat → Nat
  | 0 => 1
  | n + 1 => (n + 1) * (L + detB L n + 1) + 1
def detT (n : Nat) (D : QM) (k : Nat) : Rat := if k % 2 = 1 then -(eQ D 0 k * detL n (withoutL D k)) else eQ D 0 k * detL n (withoutL D k)
theorem detB_pos (L n : Nat) : 1 ≤ detB L n := by cases n <;> simp [detB]
theorem wf_without {D : QM} {n L k : Nat} (h : Wf D (n + 1) (n + 1) L) (hk : k < n + 1) : Wf (withoutL D k) n n L := by
  have hs := shp_without h.shp hk
  refine ⟨hs.1, fun r hr => ?_⟩
  obtain ⟨i, hi, rfl⟩ := List.mem_iff_getElem.1 hr
  have hl := hs.2 i (by rw [← hs.1]; exact hi)
  have hg : (withoutL D k)[i] = (withoutL D k).getD i [] := by rw [List.getD_eq_getElem?_getD, List.getElem?_eq_getElem hi]; rfl
  rw [hg]
  refine ⟨hl, fun q hq => ?_⟩
  rw [withoutL_row] at hq
  have hr := h.row (show i + 1 < n + 1 by rw [← hs.1]; omega)
  rcases List.mem_append.1 hq with hq | hq
  · exact hr.2 q (List.mem_of_mem_take hq)
  · exact hr.2 q (List.mem_of_mem_drop hq)
theorem fits_sumT {L n : Nat} {D : QM} (h : ∀ k, k < n + 1 → FitsQ (detT n D k) (L + detB L n)) : ∀ k, k ≤ n + 1 → FitsQ (sumR k (detT n D)) (k * (L + detB L n + 1) + 1) := fun k => by
  induction k with
  | zero => intro _; rw [Nat.zero_mul]; exact fitsQ_zero 1 (by decide)
  | succ k ih =>
    intro hk
    refine ((ih (by omega)).add1 (h k (by omega))).mono ?_
    rw [Nat.add_mul k 1 (L + detB L n + 1)]
    omega
theorem fits_detT_of {L n k : Nat} {D : QM} (h1 : FitsQ (eQ D 0 k) L) (h2 : FitsQ (detL n (withoutL D k)) (detB L n)) : FitsQ (detT n D k) (L + detB L n) := by
  unfold detT
  split
  · exact (h1.mul h2).neg
  · exact h1.mul h2
theorem fits_detL (L : Nat) (hL : 1 ≤ L) : ∀ (n : Nat) (D : QM), Wf D n n L → FitsQ (detL n D) (detB L n)
  | 0, D, _ => fitsQ_one 1 (by decide)
  | n + 1, D, h => by
    exact fits_sumT (fun k hk => fits_detT_of (h.at (show 0 < n + 1 by omega) hk) (fits_detL L hL n (withoutL D k) (wf_without h hk))) (n + 1) (Nat.le_refl _)
theorem fits_detT (L : Nat) (hL : 1 ≤ L) {n : Nat} {D : QM} (h : Wf D (n + 1) (n + 1) L) (k : Nat) (hk : k < n + 1) : FitsQ (detT n D k) (L + detB L n) := fits_detT_of (h.at (show 0 < n + 1 by omega) hk) (fits_detL L hL n (withoutL D k) (wf_without h hk))
theorem fits_sum (L : Nat) (hL : 1 ≤ L) {n : Nat} {D : QM} (h : Wf D (n + 1) (n + 1) L) (k : Nat) (hk : k ≤ n + 1) : FitsQ (sumR k (detT n D)) ((n + 1) * (L + detB L n + 1) + 1) := (fits_sumT (fun k hk => fits_detT L hL h k hk) k hk).mono (Nat.add_le_add_right (Nat.mul_le_mul_right _ hk) 1)

theorem one_cells : decZ (1 : Rat).num = [49] ∧ dec (1 : Rat).den = [49] := ⟨(decZ_nat 1).trans dec_one, dec_one⟩
theorem zero_cells : decZ (0 : Rat).num = [48] ∧ dec (0 : Rat).den = [49] := ⟨rfl, dec_one⟩

abbrev c61_k1 : CC := (.seq (.reg [⟨(some 36), none, (.load 2 true (.tmp 3))⟩, ⟨none, none, (.store 2 (.tmp 2) (.tmp 36))⟩]) .ret)
abbrev c61_b1 : CC := (.seq (.seq (.reg [⟨(some 11), none, (.mv (.tmp 4))⟩, ⟨(some 12), none, (.mv (.tmp 0))⟩, ⟨(some 13), none, (.len false (.tmp 12))⟩, ⟨(some 14), none, (.bin .lss (.tmp 11) (.tmp 13))⟩]) (.cond (.tmp 14) .skip (.exit 0))) (.seq (.block 1 (.seq (.regn true [⟨(some 17), none, (.mv (.tmp 0))⟩, ⟨(some 18), none, (.iaddr 1 none (.tmp 17) (.const (.int .i64 (0))))⟩, ⟨(some 19), none, (.load 1 false (.tmp 18))⟩, ⟨(some 20), none, (.mv (.tmp 4))⟩, ⟨(some 21), none, (.iaddr 2 none (.tmp 19) (.tmp 20))⟩, ⟨(some 22), none, (.load 2 true (.tmp 21))⟩, ⟨(some 23), none, (.mv (.tmp 0))⟩, ⟨(some 24), none, (.mv (.tmp 4))⟩, ⟨(some 25), none, (.callf (.func 119) [(.tmp 23), (.tmp 24)])⟩, ⟨(some 26), none, (.callf (.func 61) [(.tmp 25)])⟩, ⟨(some 27), none, (.callf (.func 37) [(.tmp 22), (.tmp 26)])⟩, ⟨(some 5), none, (.fill 33 [(.string ⟨#[]⟩), (.string ⟨#[]⟩)])⟩, ⟨none, none, (.store 2 (.tmp 5) (.tmp 27))⟩]) (.seq (.seq (.reg [⟨(some 28), none, (.mv (.tmp 4))⟩, ⟨(some 29), none, (.bin .rem (.tmp 28) (.const (.int .i64 (2))))⟩, ⟨(some 30), none, (.bin .eql (.tmp 29) (.const (.int .i64 (1))))⟩]) (.cond (.tmp 30) (.reg [⟨(some 31), none, (.load 2 true (.tmp 5))⟩, ⟨(some 32), none, (.callf (.func 120) [(.tmp 31)])⟩, ⟨none, none, (.store 2 (.tmp 5) (.tmp 32))⟩]) .skip)) (.reg [⟨(some 33), none, (.load 2 true (.tmp 3))⟩, ⟨(some 34), none, (.load 2 true (.tmp 5))⟩, ⟨(some 35), none, (.callf (.func 36) [(.tmp 33), (.tmp 34)])⟩, ⟨none, none, (.store 2 (.tmp 3) (.tmp 35))⟩])))) (.reg [⟨(some 15), none, (.mv (.tmp 4))⟩, ⟨(some 16), none, (.bin .add (.tmp 15) (.const (.int .i64 (1))))⟩, ⟨(some 4), none, (.mv (.tmp 16))⟩])))
abbrev c61 : CC := (.seq (.reg [⟨(some 2), none, (.new 33 [(.string ⟨#[]⟩), (.string ⟨#[]⟩)])⟩]) (.seq (.seq (.reg [⟨(some 6), none, (.mv (.tmp 0))⟩, ⟨(some 7), none, (.len false (.tmp 6))⟩, ⟨(some 8), none, (.bin .eql (.tmp 7) (.const (.int .i64 (0))))⟩]) (.cond (.tmp 8) (.seq (.reg [⟨(some 9), none, (.build [(.string ⟨#[]⟩), (.string ⟨#[]⟩)] [(0, (1, (.const (.string ⟨#[49]⟩)))), (1, (1, (.const (.string ⟨#[49]⟩))))])⟩, ⟨none, none, (.store 2 (.tmp 2) (.tmp 9))⟩]) .ret) .skip)) (.seq (.reg [⟨(some 10), none, (.build [(.string ⟨#[]⟩), (.string ⟨#[]⟩)] [(0, (1, (.const (.string ⟨#[48]⟩)))), (1, (1, (.const (.string ⟨#[49]⟩))))])⟩, ⟨(some 3), none, (.new 33 [(.string ⟨#[]⟩), (.string ⟨#[]⟩)])⟩, ⟨none, none, (.store 2 (.tmp 3) (.tmp 10))⟩]) (.seq (.seq (.reg [⟨(some 4), none, (.mv (.const (.int .i64 (0))))⟩]) (.block 0 (.loop c61_b1))) c61_k1))))
theorem cc61 : ccode Try.prog [] (Try.f61.body.getD .skip) = some c61 := by kernel_rfl
theorem body61 : Try.f61.body = some (Try.f61.body.getD .skip) := rfl

theorem det_C (L : Nat) (hL : 1 ≤ L) : ∀ (n : Nat) (x : Option DMM), Wf (qD x) n n L → n ≤ 8 → detB L n ≤ 9000000 → PureC Try.prog 61 [aDM x] (.ret (aQ (detL n (qD x)))) := by
  intro n
  induction n with
  | zero =>
    intro x hx _ _
    have hxl : (osl x).length = 0 := by rw [← qD_len]; exact hx.1
    show PureC _ _ _ (.ret (.agg [.c (.str (decZ (1 : Rat).num)), .c (.str (dec (1 : Rat).den))]))
    rw [one_cells.1, one_cells.2]
    refine pureC_of (rs := [(RV.cell 2 2 true)]) Try.func61 (fun a w => Try.call61 a w) body61 cc61 (by kernel_rfl) ?_
    rw [Try.ntmps61]
    simp only [frs, Nat.reduceAdd, Nat.reduceSub]
    repeat (first | (with_reducible first | refine Way.imp ?_ | refine blk_o rfl ?_) | ((with_reducible refine WayR.imp (fun K hK => ?_)); simp (disch := first | omega | (simp only [dls]; omega)) only [std, reduceIte, reduceCtorEq, Int.reduceToNat, Nat.reduceAdd, Nat.reduceSub, Nat.reduceMul, Int.reduceAdd, Int.reduceSub, Int.reduceMul, Int.reduceNeg, fU, constAV_arr, hxl]; subst hK))
    exact ⟨_, rfl, rfl⟩
  | succ n ih =>
    intro x hx hn hB
    have hxl : (osl x).length = n + 1 := by rw [← qD_len]; exact hx.1
    have hBn : (n + 1) * (L + detB L n + 1) + 1 ≤ 9000000 := hB
    have hBm : L + detB L n + 1 ≤ (n + 1) * (L + detB L n + 1) := Nat.le_mul_of_pos_left _ (by omega)
    have hz1 := zero_cells.1
    have hz2 := zero_cells.2
    have hz0 : sumR 0 (detT n (qD x)) = 0 := rfl
    show PureC _ _ _ (.ret (aQ (sumR (n + 1) (detT n (qD x)))))
    refine pureC_of (rs := [(RV.cell 2 2 true)]) Try.func61 (fun a w => Try.call61 a w) body61 cc61 (by kernel_rfl) ?_
    rw [Try.ntmps61]
    simp only [frs, Nat.reduceAdd, Nat.reduceSub]
    repeat (first | (with_reducible first | refine Way.imp ?_ | refine blk_o rfl ?_) | ((with_reducible refine WayR.imp (fun K hK => ?_)); simp (disch := first | omega | (simp only [dls]; omega)) only [std, reduceIte, reduceCtorEq, Int.reduceToNat, Nat.reduceAdd, Nat.reduceSub, Nat.reduceMul, Int.reduceAdd, Int.reduceSub, Int.reduceMul, Int.reduceNeg, fU, constAV_arr, hxl]; subst hK))
    refine awp_loop (fun (zz : Nat) => ⟨(aDM x :: .junk :: .one (.ptr 0 0 0 0) :: .one (.ptr 1 0 0 0) :: aI zz :: .junk :: .junk :: .junk :: .junk :: .junk :: .junk :: .junk :: .junk :: .junk :: .junk :: .junk :: .junk :: .junk :: .junk :: .junk :: .junk :: .junk :: .junk :: .junk :: .junk :: .junk :: .junk :: .junk :: .junk :: .junk :: .junk :: .junk :: .junk :: .junk :: .junk :: .junk :: .junk :: []), [⟨0, 33, 2, [[.c (.val (.string ⟨#[]⟩)), .c (.val (.string ⟨#[]⟩))]], true, true⟩, ⟨0, 33, 2, [[.c (.str (decZ (sumR zz (detT n (qD x))).num)), .c (.str (dec (sumR zz (detT n (qD x))).den))]], true, true⟩]⟩) (fun (zz : Nat) => zz ≤ n + 1) (fun (zz : Nat) => n + 1 - zz) (0) ?hI3 (Fgt.head (Nat.zero_le 2) [true, false, true, true, true] ?hT3 ?hH3) ?hB3
    case hT3 => first | (simp (disch := omega) only [hds, liveT, cleanAV, cleanCell, clean1, cleanBlk, reduceIte, Int.reduceSub, Int.reduceAdd, Int.reduceNeg, hz0, hz1, hz2]; done) | rfl
    case hH3 => first | (simp (disch := omega) only [hds, liveT, cleanAV, cleanCell, clean1, cleanBlk, reduceIte, Int.reduceSub, Int.reduceAdd, Int.reduceNeg, hz0, hz1, hz2]; done) | rfl
    · exact Nat.zero_le _
    rintro k hk
    by_cases hkn : k = n + 1
    · rw [hkn]
      repeat (first | (with_reducible first | refine Way.imp ?_ | refine blk_o rfl ?_) | ((with_reducible refine WayR.imp (fun K hK => ?_)); simp (disch := first | omega | (simp only [dls]; omega)) only [std, reduceIte, reduceCtorEq, Int.reduceToNat, Nat.reduceAdd, Nat.reduceSub, Nat.reduceMul, Int.reduceAdd, Int.reduceSub, Int.reduceMul, Int.reduceNeg, fU, constAV_arr]; subst hK))
      exact ⟨_, rfl, rfl⟩
    · have hkl : k < n + 1 := by omega
      have h0 : 0 < (osl x).length := by omega
      have hrow : (osl (osl x)[0]).length = n + 1 := by rw [← qD_row x h0]; exact (hx.row (by omega)).1
      have hent : ∀ h : k < (osl (osl x)[0]).length, (osl (osl x)[0])[k] = eQ (qD x) 0 k := fun h => by
        unfold eQ
        rw [qD_row x h0, List.getD_eq_getElem?_getD, List.getElem?_eq_getElem h]; rfl
      have hw := without_C x k n n hx.shp hkl (by omega) (by omega)
      have hwf := wf_without hx hkl
      have hrec := ih (rowO ((withoutL (qD x) k).map some)) (by rw [qD_some]; exact hwf) (by omega) (by omega)
      rw [qD_some] at hrec
      have hfe := hx.at (show 0 < n + 1 by omega) hkl
      have hfd := fits_detL L hL n _ hwf
      have hmul := qmul_C (eQ (qD x) 0 k) (detL n (withoutL (qD x) k)) (hfe.mono (by omega)) (hfd.mono (by omega))
      have hneg := qneg_C (eQ (qD x) 0 k * detL n (withoutL (qD x) k)) ((hfe.mul hfd).mono (by omega))
      have hsucc : sumR (k + 1) (detT n (qD x)) = sumR k (detT n (qD x)) + detT n (qD x) k := rfl
      have hst : sumR (k + 1) (detT n (qD x)) = sumR k (detT n (qD x)) + detT n (qD x) k := rfl
      have hfs := fits_sum L hL hx k (by omega)
      have hft := fits_detT L hL hx k hkl
      by_cases hodd : k % 2 = 1
      · have hT : detT n (qD x) k = -(eQ (qD x) 0 k * detL n (withoutL (qD x) k)) := by unfold detT; rw [if_pos hodd]
        have hadd := qadd_C (sumR k (detT n (qD x))) (detT n (qD x) k) (hfs.mono (by omega)) (hft.mono (by omega))
        rw [hT, ← hT, ← hst] at hadd
        rw [← hT] at hneg
        have hrem : ((k : Int).tmod 2) = 1 := by rw [Int.tmod_eq_emod_of_nonneg (by omega)]; omega
        generalize hs1 : sumR (k + 1) (detT n (qD x)) = s1 at *
        generalize sumR k (detT n (qD x)) = s0 at *
        generalize detT n (qD x) k = tk at *
        generalize eQ (qD x) 0 k * detL n (withoutL (qD x) k) = pr at *
        generalize detL n (withoutL (qD x) k) = dd at *
        generalize rowO ((withoutL (qD x) k).map some) = X at *
        generalize eQ (qD x) 0 k = e0 at *
        repeat (first | (with_reducible first | refine Way.imp ?_ | refine blk_o rfl ?_) | ((with_reducible refine WayR.imp (fun K hK => ?_)); simp (disch := first | omega | (simp only [dls]; omega)) only [std, reduceIte, reduceCtorEq, Int.reduceToNat, Nat.reduceAdd, Nat.reduceSub, Nat.reduceMul, Int.reduceAdd, Int.reduceSub, Int.reduceMul, Int.reduceNeg, fU, constAV_arr, fDM, fD, hrow, hent, hrem]; subst hK) | refine zcA (hw) rfl rfl rfl ?_ | refine zcA (hrec) rfl rfl rfl ?_ | refine zcA (hmul) rfl rfl rfl ?_ | refine zcA (hneg) rfl rfl rfl ?_ | refine zcA (hadd) rfl rfl rfl ?_)
        refine ⟨(k + 1), ?hI4, ?hM4, Fgt.head (Nat.zero_le 2) [true, false, true, true, true] ?hT4 ?hH4⟩
        case hT4 => first | (simp (disch := omega) only [hds, liveT, cleanAV, cleanCell, clean1, cleanBlk, reduceIte, Int.reduceSub, Int.reduceAdd, Int.reduceNeg, hs1]; done) | rfl
        case hH4 => first | (simp (disch := omega) only [hds, liveT, cleanAV, cleanCell, clean1, cleanBlk, reduceIte, Int.reduceSub, Int.reduceAdd, Int.reduceNeg, hs1]; done) | rfl
        · omega
        · omega
      · have hT : detT n (qD x) k = eQ (qD x) 0 k * detL n (withoutL (qD x) k) := by unfold detT; rw [if_neg hodd]
        have hadd := qadd_C (sumR k (detT n (qD x))) (detT n (qD x) k) (hfs.mono (by omega)) (hft.mono (by omega))
        rw [← hst] at hadd
        rw [← hT] at hmul
        have hrem : ((k : Int).tmod 2) = 0 := by rw [Int.tmod_eq_emod_of_nonneg (by omega)]; omega
        generalize hs1 : sumR (k + 1) (detT n (qD x)) = s1 at *
        generalize sumR k (detT n (qD x)) = s0 at *
        generalize detT n (qD x) k = tk at *
        generalize detL n (withoutL (qD x) k) = dd at *
        generalize rowO ((withoutL (qD x) k).map some) = X at *
        generalize eQ (qD x) 0 k = e0 at *
        repeat (first | (with_reducible first | refine Way.imp ?_ | refine blk_o rfl ?_) | ((with_reducible refine WayR.imp (fun K hK => ?_)); simp (disch := first | omega | (simp only [dls]; omega)) only [std, reduceIte, reduceCtorEq, Int.reduceToNat, Nat.reduceAdd, Nat.reduceSub, Nat.reduceMul, Int.reduceAdd, Int.reduceSub, Int.reduceMul, Int.reduceNeg, fU, constAV_arr, fDM, fD, hrow, hent, hrem]; subst hK) | refine zcA (hw) rfl rfl rfl ?_ | refine zcA (hrec) rfl rfl rfl ?_ | refine zcA (hmul) rfl rfl rfl ?_ | refine zcA (hadd) rfl rfl rfl ?_)
        refine ⟨(k + 1), ?hI5, ?hM5, Fgt.head (Nat.zero_le 2) [true, false, true, true, true] ?hT5 ?hH5⟩
        case hT5 => first | (simp (disch := omega) only [hds, liveT, cleanAV, cleanCell, clean1, cleanBlk, reduceIte, Int.reduceSub, Int.reduceAdd, Int.reduceNeg, hs1]; done) | rfl
        case hH5 => first | (simp (disch := omega) only [hds, liveT, cleanAV, cleanCell, clean1, cleanBlk, reduceIte, Int.reduceSub, Int.reduceAdd, Int.reduceNeg, hs1]; done) | rfl
        · omega
        · omega

end Go.Proofs.Ytdhkdnmefeeclaa
set_option linter.unusedSimpArgs false
set_option linter.unusedVariables false
set_option maxRecDepth 100000
set_option maxHeartbeats 4000000
namespace Go.Proofs.Ytdhkdnmefeeclaa
open Go Go.Am Go.Proofs Go.RowKit Go.Off

theorem decZ_zb (q : Rat) : (decZ q.num == [48]) = decide (q = 0) := by
  by_cases h : q = 0
  · subst h; rfl
  · have h1 : ¬ decZ q.num = [48] := fun e => h (by
      have e2 : decZ q.num = decZ 0 := by rw [e]; rfl
      have := decZ_inj e2
      exact Rat.num_eq_zero.1 this)
    rw [decide_eq_false h]
    exact beq_eq_false_iff_ne.2 h1
theorem qD_rowsD (m : MM) : qD (rowO (rowsD m)) = qM m := by
  unfold qD qM rowsD
  rw [osl_rowO, List.map_map]
  exact List.map_congr_left (fun v _ => osl_rowO _)
theorem pow4_4 {N : Nat} (h : N ≤ 4) : 4 ^ N ≤ 256 := Nat.pow_le_pow_right (by decide : 0 < 4) h
theorem det_few {m : MM} (h1 : fewM m = true) (h2 : rectTo m (osl m).length = true) (h3 : cols m = (osl m).length) : PureC Try.prog 61 [aDM (rowO (rowsD m))] (.ret (aQ (detL (osl m).length (qM m)))) := by
  have hf := fewM_fits h1
  have hl := fewM_len h1
  have hw := wf_qM hf (ok_of hf (by decide) h2) (by decide)
  rw [h3] at hw
  have hB : detB 3 (osl m).length ≤ 9000000 := by
    have : (osl m).length = 0 ∨ (osl m).length = 1 ∨ (osl m).length = 2 ∨ (osl m).length = 3 ∨ (osl m).length = 4 := by omega
    rcases this with h | h | h | h | h <;> rw [h] <;> decide
  have := det_C 3 (by decide) (osl m).length (rowO (rowsD m)) (by rw [qD_rowsD]; exact hw) (by omega) hB
  rw [qD_rowsD] at this
  exact this

end Go.Proofs.Ytdhkdnmefeeclaa
