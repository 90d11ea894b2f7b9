/- Walks of offcutref02. -/
import Derived.Test.YtdhkdnmefeeclaaDoorF1
set_option linter.unusedSimpArgs false
set_option linter.unusedVariables false
set_option linter.unnecessarySimpa false
set_option linter.unusedSimpArgs false
set_option linter.unusedVariables false
set_option maxRecDepth 100000
set_option maxHeartbeats 4000000
namespace Go.Proofs.YtdhkdnmefeeclaaDoor
open Go Go.Am Go.Proofs Go.Off

theorem dec_cons (n : Nat) : ∃ c t, dec n = c :: t ∧ c.toNat ≠ 45 := by
  cases h : dec n with
  | nil => exact absurd h (dec_ne_nil n)
  | cons c t =>
    refine ⟨c, t, rfl, ?_⟩
    have := dec_dig n c (by rw [h]; simp)
    unfold isDig at this
    omega
theorem decZ_neg {z : Int} (h : z < 0) : decZ z = 45 :: dec z.natAbs := by unfold decZ; rw [if_pos h]
theorem decZ_pos {z : Int} (h : ¬ z < 0) : decZ z = dec z.natAbs := by unfold decZ; rw [if_neg h]

abbrev c83 : CC := (.seq (.reg [⟨(some 2), none, (.mv (.const (.bool false)))⟩]) (.seq (.reg [⟨(some 3), none, (.mv (.tmp 0))⟩, ⟨(some 4), none, (.sidx (.tmp 3) (.const (.int .i64 (0))))⟩, ⟨(some 5), none, (.bin .eql (.tmp 4) (.const (.int .u8 (45))))⟩, ⟨(some 2), none, (.mv (.tmp 5))⟩]) .ret))
theorem cc83 : ccode Tryd.prog [] (Tryd.f83.body.getD .skip) = some c83 := by kernel_rfl
theorem body83 : Tryd.f83.body = some (Tryd.f83.body.getD .skip) := rfl

theorem below_C (z : Int) : PureC Tryd.prog 83 [aS (decZ z)] (.ret (aB (decide (z < 0)))) := by
  by_cases h : z < 0
  · rw [decZ_neg h, show decide (z < 0) = true from by simp [h]]
    refine pureC_of (rs := [(RV.tmp 2)]) Tryd.func83 (fun a w => Tryd.call83 a w) body83 cc83 (by kernel_rfl) ?_
    rw [Tryd.ntmps83]
    simp only [frs, Nat.reduceAdd, Nat.reduceSub]
    repeat (first | (with_reducible first | refine Way.imp ?_ | refine blk_o rfl ?_) | ((with_reducible refine WayR.imp (fun K hK => ?_)); simp (disch := first | omega | (simp only [dls]; omega)) only [std, reduceIte, reduceCtorEq, Int.reduceToNat, Nat.reduceAdd, Nat.reduceSub, Nat.reduceMul, Int.reduceAdd, Int.reduceSub, Int.reduceMul, Int.reduceNeg, fU, constAV_arr, cons_beq_nil, nil_beq_nil, lenAV_str, constAV_digStr, digList_len, List.take_length]; subst hK))
    exact ⟨_, rfl, rfl⟩
  · obtain ⟨c, t, h1, h2⟩ := dec_cons z.natAbs
    rw [decZ_pos h, show decide (z < 0) = false from by simp [h], h1]
    refine pureC_of (rs := [(RV.tmp 2)]) Tryd.func83 (fun a w => Tryd.call83 a w) body83 cc83 (by kernel_rfl) ?_
    rw [Tryd.ntmps83]
    simp only [frs, Nat.reduceAdd, Nat.reduceSub]
    repeat (first | (with_reducible first | refine Way.imp ?_ | refine blk_o rfl ?_) | ((with_reducible refine WayR.imp (fun K hK => ?_)); simp (disch := first | omega | (simp only [dls]; omega)) only [std, reduceIte, reduceCtorEq, Int.reduceToNat, Nat.reduceAdd, Nat.reduceSub, Nat.reduceMul, Int.reduceAdd, Int.reduceSub, Int.reduceMul, Int.reduceNeg, fU, constAV_arr, cons_beq_nil, nil_beq_nil, lenAV_str, constAV_digStr, digList_len, List.take_length]; subst hK))
    exact ⟨_, rfl, rfl⟩

abbrev c85 : CC := (.seq (.reg [⟨(some 2), none, (.mv (.const (.string ⟨#[]⟩)))⟩]) (.seq (.seq (.reg [⟨(some 3), none, (.mv (.tmp 0))⟩, ⟨(some 4), none, (.callf (.func 83) [(.tmp 3)])⟩]) (.cond (.tmp 4) (.seq (.reg [⟨(some 5), none, (.mv (.tmp 0))⟩, ⟨(some 6), none, (.sslice (.tmp 5) (some (.const (.int .i64 (1)))) none)⟩, ⟨(some 2), none, (.mv (.tmp 6))⟩]) .ret) .skip)) (.seq (.reg [⟨(some 7), none, (.mv (.tmp 0))⟩, ⟨(some 2), none, (.mv (.tmp 7))⟩]) .ret)))
theorem cc85 : ccode Tryd.prog [] (Tryd.f85.body.getD .skip) = some c85 := by kernel_rfl
theorem body85 : Tryd.f85.body = some (Tryd.f85.body.getD .skip) := rfl

theorem size_C (z : Int) : PureC Tryd.prog 85 [aS (decZ z)] (.ret (aS (dec z.natAbs))) := by
  have hb := below_C z
  by_cases h : z < 0
  · rw [show decide (z < 0) = true from by simp [h]] at hb
    rw [decZ_neg h] at hb ⊢
    refine pureC_of (rs := [(RV.tmp 2)]) Tryd.func85 (fun a w => Tryd.call85 a w) body85 cc85 (by kernel_rfl) ?_
    rw [Tryd.ntmps85]
    simp only [frs, Nat.reduceAdd, Nat.reduceSub]
    repeat (first | (with_reducible first | refine Way.imp ?_ | refine blk_o rfl ?_) | ((with_reducible refine WayR.imp (fun K hK => ?_)); simp (disch := first | omega | (simp only [dls]; omega)) only [std, reduceIte, reduceCtorEq, Int.reduceToNat, Nat.reduceAdd, Nat.reduceSub, Nat.reduceMul, Int.reduceAdd, Int.reduceSub, Int.reduceMul, Int.reduceNeg, fU, constAV_arr, cons_beq_nil, nil_beq_nil, lenAV_str, constAV_digStr, digList_len, List.take_length]; subst hK) | refine zcA (hb) rfl rfl rfl ?_)
    exact ⟨_, rfl, rfl⟩
  · rw [show decide (z < 0) = false from by simp [h]] at hb
    rw [decZ_pos h] at hb ⊢
    refine pureC_of (rs := [(RV.tmp 2)]) Tryd.func85 (fun a w => Tryd.call85 a w) body85 cc85 (by kernel_rfl) ?_
    rw [Tryd.ntmps85]
    simp only [frs, Nat.reduceAdd, Nat.reduceSub]
    repeat (first | (with_reducible first | refine Way.imp ?_ | refine blk_o rfl ?_) | ((with_reducible refine WayR.imp (fun K hK => ?_)); simp (disch := first | omega | (simp only [dls]; omega)) only [std, reduceIte, reduceCtorEq, Int.reduceToNat, Nat.reduceAdd, Nat.reduceSub, Nat.reduceMul, Int.reduceAdd, Int.reduceSub, Int.reduceMul, Int.reduceNeg, fU, constAV_arr, cons_beq_nil, nil_beq_nil, lenAV_str, constAV_digStr, digList_len, List.take_length]; subst hK) | refine zcA (hb) rfl rfl rfl ?_)
    exact ⟨_, rfl, rfl⟩

abbrev c80 : CC := (.seq (.reg [⟨(some 4), none, (.mv (.const (.string ⟨#[]⟩)))⟩]) (.seq (.seq (.reg [⟨(some 5), none, (.mv (.tmp 0))⟩, ⟨(some 6), none, (.mv (.tmp 5))⟩, ⟨(some 7), (some (6, true)), (.mv (.tmp 1))⟩, ⟨(some 8), (some (6, true)), (.bin .neq (.tmp 7) (.const (.string ⟨#[48]⟩)))⟩, ⟨(some 9), none, (.pick (.tmp 6) (.tmp 8) (.const (.bool false)))⟩]) (.cond (.tmp 9) (.seq (.reg [⟨(some 10), none, (.mv (.tmp 1))⟩, ⟨(some 11), none, (.bin .add (.const (.string ⟨#[45]⟩)) (.tmp 10))⟩, ⟨(some 4), none, (.mv (.tmp 11))⟩]) .ret) .skip)) (.seq (.reg [⟨(some 12), none, (.mv (.tmp 1))⟩, ⟨(some 4), none, (.mv (.tmp 12))⟩]) .ret)))
theorem cc80 : ccode Tryd.prog [] (Tryd.f80.body.getD .skip) = some c80 := by kernel_rfl
theorem body80 : Tryd.f80.body = some (Tryd.f80.body.getD .skip) := rfl

theorem made_C (m : Bool) (n : Nat) (z : Int) (hz : z = if m = true then -(n : Int) else (n : Int)) (hn : (dec n).length ≤ 100000000000) : PureC Tryd.prog 80 [aB m, aS (dec n)] (.ret (aS (decZ z))) := by
  have hq := dec_eq_zero n
  cases m with
  | false =>
    rw [if_neg (by decide)] at hz
    rw [decZ_pos (by omega), show z.natAbs = n by omega]
    refine pureC_of (rs := [(RV.tmp 4)]) Tryd.func80 (fun a w => Tryd.call80 a w) body80 cc80 (by kernel_rfl) ?_
    rw [Tryd.ntmps80]
    simp only [frs, Nat.reduceAdd, Nat.reduceSub]
    repeat (first | (with_reducible first | refine Way.imp ?_ | refine blk_o rfl ?_) | ((with_reducible refine WayR.imp (fun K hK => ?_)); simp (disch := first | omega | (simp only [dls]; omega)) only [std, reduceIte, reduceCtorEq, Int.reduceToNat, Nat.reduceAdd, Nat.reduceSub, Nat.reduceMul, Int.reduceAdd, Int.reduceSub, Int.reduceMul, Int.reduceNeg, fU, constAV_arr, cons_beq_nil, nil_beq_nil, lenAV_str, constAV_digStr, digList_len, List.take_length]; subst hK))
    exact ⟨_, rfl, rfl⟩
  | true =>
    rw [if_pos rfl] at hz
    by_cases h0 : n = 0
    · rw [show decide (n = 0) = true from by simp [h0]] at hq
      rw [decZ_pos (by omega), show z.natAbs = n by omega]
      refine pureC_of (rs := [(RV.tmp 4)]) Tryd.func80 (fun a w => Tryd.call80 a w) body80 cc80 (by kernel_rfl) ?_
      rw [Tryd.ntmps80]
      simp only [frs, Nat.reduceAdd, Nat.reduceSub]
      repeat (first | (with_reducible first | refine Way.imp ?_ | refine blk_o rfl ?_) | ((with_reducible refine WayR.imp (fun K hK => ?_)); simp (disch := first | omega | (simp only [dls]; omega)) only [std, reduceIte, reduceCtorEq, Int.reduceToNat, Nat.reduceAdd, Nat.reduceSub, Nat.reduceMul, Int.reduceAdd, Int.reduceSub, Int.reduceMul, Int.reduceNeg, fU, constAV_arr, cons_beq_nil, nil_beq_nil, lenAV_str, constAV_digStr, digList_len, List.take_length, hq]; subst hK))
      exact ⟨_, rfl, rfl⟩
    · rw [show decide (n = 0) = false from by simp [h0]] at hq
      rw [decZ_neg (by omega), show z.natAbs = n by omega]
      refine pureC_of (rs := [(RV.tmp 4)]) Tryd.func80 (fun a w => Tryd.call80 a w) body80 cc80 (by kernel_rfl) ?_
      rw [Tryd.ntmps80]
      simp only [frs, Nat.reduceAdd, Nat.reduceSub]
      repeat (first | (with_reducible first | refine Way.imp ?_ | refine blk_o rfl ?_) | ((with_reducible refine WayR.imp (fun K hK => ?_)); simp (disch := first | omega | (simp only [dls]; omega)) only [std, reduceIte, reduceCtorEq, Int.reduceToNat, Nat.reduceAdd, Nat.reduceSub, Nat.reduceMul, Int.reduceAdd, Int.reduceSub, Int.reduceMul, Int.reduceNeg, fU, constAV_arr, cons_beq_nil, nil_beq_nil, lenAV_str, constAV_digStr, digList_len, List.take_length, hq]; subst hK))
      exact ⟨_, rfl, rfl⟩

theorem slen {z : Int} {L : Nat} (h : (digits z.natAbs).length ≤ L) (hL : L ≤ 100000000) : (dec z.natAbs).length ≤ 1000000001 := by
  have := (short_of h hL).1
  omega

abbrev c84 : CC := (.seq (.reg [⟨(some 2), none, (.mv (.const (.string ⟨#[]⟩)))⟩]) (.seq (.reg [⟨(some 3), none, (.mv (.tmp 0))⟩, ⟨(some 4), none, (.callf (.func 83) [(.tmp 3)])⟩, ⟨(some 5), none, (.un .not (.tmp 4))⟩, ⟨(some 6), none, (.mv (.tmp 0))⟩, ⟨(some 7), none, (.callf (.func 85) [(.tmp 6)])⟩, ⟨(some 8), none, (.callf (.func 80) [(.tmp 5), (.tmp 7)])⟩, ⟨(some 2), none, (.mv (.tmp 8))⟩]) .ret))
theorem cc84 : ccode Tryd.prog [] (Tryd.f84.body.getD .skip) = some c84 := by kernel_rfl
theorem body84 : Tryd.f84.body = some (Tryd.f84.body.getD .skip) := rfl

theorem zneg_C (z : Int) (h : (digits z.natAbs).length ≤ 100000000) : PureC Tryd.prog 84 [aS (decZ z)] (.ret (aS (decZ (-z)))) := by
  have hb := below_C z
  have hs := size_C z
  have hl := slen h (by decide)
  by_cases hn : z < 0
  · rw [show decide (z < 0) = true from by simp [hn]] at hb
    have hm := made_C false z.natAbs (-z) (by rw [if_neg (by decide)]; omega) (by omega)
    generalize decZ z = x at *
    generalize decZ (-z) = y at *
    generalize dec z.natAbs = w at *
    refine pureC_of (rs := [(RV.tmp 2)]) Tryd.func84 (fun a w => Tryd.call84 a w) body84 cc84 (by kernel_rfl) ?_
    rw [Tryd.ntmps84]
    simp only [frs, Nat.reduceAdd, Nat.reduceSub]
    repeat (first | (with_reducible first | refine Way.imp ?_ | refine blk_o rfl ?_) | ((with_reducible refine WayR.imp (fun K hK => ?_)); simp (disch := first | omega | (simp only [dls]; omega)) only [std, reduceIte, reduceCtorEq, Int.reduceToNat, Nat.reduceAdd, Nat.reduceSub, Nat.reduceMul, Int.reduceAdd, Int.reduceSub, Int.reduceMul, Int.reduceNeg, fU, constAV_arr, cons_beq_nil, nil_beq_nil, lenAV_str, constAV_digStr, digList_len, List.take_length]; subst hK) | refine zcA (hb) rfl rfl rfl ?_ | refine zcA (hs) rfl rfl rfl ?_ | refine zcA (hm) rfl rfl rfl ?_)
    exact ⟨_, rfl, rfl⟩
  · rw [show decide (z < 0) = false from by simp [hn]] at hb
    have hm := made_C true z.natAbs (-z) (by rw [if_pos rfl]; omega) (by omega)
    generalize decZ z = x at *
    generalize decZ (-z) = y at *
    generalize dec z.natAbs = w at *
    refine pureC_of (rs := [(RV.tmp 2)]) Tryd.func84 (fun a w => Tryd.call84 a w) body84 cc84 (by kernel_rfl) ?_
    rw [Tryd.ntmps84]
    simp only [frs, Nat.reduceAdd, Nat.reduceSub]
    repeat (first | (with_reducible first | refine Way.imp ?_ | refine blk_o rfl ?_) | ((with_reducible refine WayR.imp (fun K hK => ?_)); simp (disch := first | omega | (simp only [dls]; omega)) only [std, reduceIte, reduceCtorEq, Int.reduceToNat, Nat.reduceAdd, Nat.reduceSub, Nat.reduceMul, Int.reduceAdd, Int.reduceSub, Int.reduceMul, Int.reduceNeg, fU, constAV_arr, cons_beq_nil, nil_beq_nil, lenAV_str, constAV_digStr, digList_len, List.take_length]; subst hK) | refine zcA (hb) rfl rfl rfl ?_ | refine zcA (hs) rfl rfl rfl ?_ | refine zcA (hm) rfl rfl rfl ?_)
    exact ⟨_, rfl, rfl⟩

abbrev c81 : CC := (.seq (.reg [⟨(some 4), none, (.mv (.const (.string ⟨#[]⟩)))⟩]) (.seq (.seq (.reg [⟨(some 5), none, (.mv (.tmp 0))⟩, ⟨(some 6), none, (.callf (.func 83) [(.tmp 5)])⟩, ⟨(some 7), none, (.mv (.tmp 1))⟩, ⟨(some 8), none, (.callf (.func 83) [(.tmp 7)])⟩, ⟨(some 9), none, (.beq false (.tmp 6) (.tmp 8))⟩]) (.cond (.tmp 9) (.seq (.reg [⟨(some 10), none, (.mv (.tmp 0))⟩, ⟨(some 11), none, (.callf (.func 83) [(.tmp 10)])⟩, ⟨(some 12), none, (.mv (.tmp 0))⟩, ⟨(some 13), none, (.callf (.func 85) [(.tmp 12)])⟩, ⟨(some 14), none, (.mv (.tmp 1))⟩, ⟨(some 15), none, (.callf (.func 85) [(.tmp 14)])⟩, ⟨(some 16), none, (.callf (.func 106) [(.tmp 13), (.tmp 15)])⟩, ⟨(some 17), none, (.callf (.func 80) [(.tmp 11), (.tmp 16)])⟩, ⟨(some 4), none, (.mv (.tmp 17))⟩]) .ret) .skip)) (.seq (.seq (.reg [⟨(some 18), none, (.mv (.tmp 0))⟩, ⟨(some 19), none, (.callf (.func 85) [(.tmp 18)])⟩, ⟨(some 20), none, (.mv (.tmp 1))⟩, ⟨(some 21), none, (.callf (.func 85) [(.tmp 20)])⟩, ⟨(some 22), none, (.callf (.func 110) [(.tmp 19), (.tmp 21)])⟩]) (.cond (.tmp 22) (.seq (.reg [⟨(some 23), none, (.mv (.tmp 1))⟩, ⟨(some 24), none, (.callf (.func 83) [(.tmp 23)])⟩, ⟨(some 25), none, (.mv (.tmp 1))⟩, ⟨(some 26), none, (.callf (.func 85) [(.tmp 25)])⟩, ⟨(some 27), none, (.mv (.tmp 0))⟩, ⟨(some 28), none, (.callf (.func 85) [(.tmp 27)])⟩, ⟨(some 29), none, (.callf (.func 111) [(.tmp 26), (.tmp 28)])⟩, ⟨(some 30), none, (.callf (.func 80) [(.tmp 24), (.tmp 29)])⟩, ⟨(some 4), none, (.mv (.tmp 30))⟩]) .ret) .skip)) (.seq (.reg [⟨(some 31), none, (.mv (.tmp 0))⟩, ⟨(some 32), none, (.callf (.func 83) [(.tmp 31)])⟩, ⟨(some 33), none, (.mv (.tmp 0))⟩, ⟨(some 34), none, (.callf (.func 85) [(.tmp 33)])⟩, ⟨(some 35), none, (.mv (.tmp 1))⟩, ⟨(some 36), none, (.callf (.func 85) [(.tmp 35)])⟩, ⟨(some 37), none, (.callf (.func 111) [(.tmp 34), (.tmp 36)])⟩, ⟨(some 38), none, (.callf (.func 80) [(.tmp 32), (.tmp 37)])⟩, ⟨(some 4), none, (.mv (.tmp 38))⟩]) .ret))))
theorem cc81 : ccode Tryd.prog [] (Tryd.f81.body.getD .skip) = some c81 := by kernel_rfl
theorem body81 : Tryd.f81.body = some (Tryd.f81.body.getD .skip) := rfl

theorem zadd_C (a b : Int) (ha : (digits a.natAbs).length ≤ 40000000) (hb : (digits b.natAbs).length ≤ 40000000) : PureC Tryd.prog 81 [aS (decZ a), aS (decZ b)] (.ret (aS (decZ (a + b)))) := by
  have ba := below_C a
  have bb := below_C b
  have sa := size_C a
  have sb := size_C b
  have la := slen ha (by decide)
  have lb := slen hb (by decide)
  have hadd := tadd_C (dec a.natAbs) (dec b.natAbs) (dec_dig _) (dec_dig _) (by omega) (by omega)
  rw [tv_dec, tv_dec] at hadd
  have lsum : (dec (a.natAbs + b.natAbs)).length ≤ 100000000000 := by
    have h1 := digits_len_add a.natAbs b.natAbs
    have h2 := (short_of (n := a.natAbs + b.natAbs) (L := 90000000) (by omega) (by decide)).1
    omega
  have hless := tless_C a.natAbs b.natAbs
  by_cases h1 : a < 0 <;> by_cases h2 : b < 0
  · rw [show decide (a < 0) = true from by simp [h1]] at ba
    rw [show decide (b < 0) = true from by simp [h2]] at bb
    have hm := made_C true (a.natAbs + b.natAbs) (a + b) (by rw [if_pos rfl]; omega) lsum
    generalize decZ a = x at *
    generalize decZ b = y at *
    generalize decZ (a + b) = z at *
    refine pureC_of (rs := [(RV.tmp 4)]) Tryd.func81 (fun a w => Tryd.call81 a w) body81 cc81 (by kernel_rfl) ?_
    rw [Tryd.ntmps81]
    simp only [frs, Nat.reduceAdd, Nat.reduceSub]
    repeat (first | (with_reducible first | refine Way.imp ?_ | refine blk_o rfl ?_) | ((with_reducible refine WayR.imp (fun K hK => ?_)); simp (disch := first | omega | (simp only [dls]; omega)) only [std, reduceIte, reduceCtorEq, Int.reduceToNat, Nat.reduceAdd, Nat.reduceSub, Nat.reduceMul, Int.reduceAdd, Int.reduceSub, Int.reduceMul, Int.reduceNeg, fU, constAV_arr, cons_beq_nil, nil_beq_nil, lenAV_str, constAV_digStr, digList_len, List.take_length]; subst hK) | refine zcA (ba) rfl rfl rfl ?_ | refine zcA (bb) rfl rfl rfl ?_ | refine zcA (sa) rfl rfl rfl ?_ | refine zcA (sb) rfl rfl rfl ?_ | refine zcA (hadd) rfl rfl rfl ?_ | refine zcA (hm) rfl rfl rfl ?_)
    exact ⟨_, rfl, rfl⟩
  · rw [show decide (a < 0) = true from by simp [h1]] at ba
    rw [show decide (b < 0) = false from by simp [h2]] at bb
    by_cases hlt : a.natAbs < b.natAbs
    · rw [show decide (a.natAbs < b.natAbs) = true from by simp [hlt]] at hless
      have hsub := tsub_C (dec b.natAbs) (dec a.natAbs) (dec_dig _) (dec_dig _) (by omega) (by omega) (by rw [tv_dec, tv_dec]; omega)
      rw [tv_dec, tv_dec] at hsub
      have ls : (dec (b.natAbs - a.natAbs)).length ≤ 100000000000 := by have := (short_of (Nat.le_trans (digits_len_mono (Nat.sub_le b.natAbs a.natAbs)) hb) (by decide)).1; omega
      have hm := made_C false (b.natAbs - a.natAbs) (a + b) (by rw [if_neg (by decide)]; omega) ls
      generalize decZ a = x at *
      generalize decZ b = y at *
      generalize decZ (a + b) = z at *
      refine pureC_of (rs := [(RV.tmp 4)]) Tryd.func81 (fun a w => Tryd.call81 a w) body81 cc81 (by kernel_rfl) ?_
      rw [Tryd.ntmps81]
      simp only [frs, Nat.reduceAdd, Nat.reduceSub]
      repeat (first | (with_reducible first | refine Way.imp ?_ | refine blk_o rfl ?_) | ((with_reducible refine WayR.imp (fun K hK => ?_)); simp (disch := first | omega | (simp only [dls]; omega)) only [std, reduceIte, reduceCtorEq, Int.reduceToNat, Nat.reduceAdd, Nat.reduceSub, Nat.reduceMul, Int.reduceAdd, Int.reduceSub, Int.reduceMul, Int.reduceNeg, fU, constAV_arr, cons_beq_nil, nil_beq_nil, lenAV_str, constAV_digStr, digList_len, List.take_length]; subst hK) | refine zcA (ba) rfl rfl rfl ?_ | refine zcA (bb) rfl rfl rfl ?_ | refine zcA (sa) rfl rfl rfl ?_ | refine zcA (sb) rfl rfl rfl ?_ | refine zcA (hless) rfl rfl rfl ?_ | refine zcA (hsub) rfl rfl rfl ?_ | refine zcA (hm) rfl rfl rfl ?_)
      exact ⟨_, rfl, rfl⟩
    · rw [show decide (a.natAbs < b.natAbs) = false from by simp [hlt]] at hless
      have hsub := tsub_C (dec a.natAbs) (dec b.natAbs) (dec_dig _) (dec_dig _) (by omega) (by omega) (by rw [tv_dec, tv_dec]; omega)
      rw [tv_dec, tv_dec] at hsub
      have ls : (dec (a.natAbs - b.natAbs)).length ≤ 100000000000 := by have := (short_of (Nat.le_trans (digits_len_mono (Nat.sub_le a.natAbs b.natAbs)) ha) (by decide)).1; omega
      have hm := made_C true (a.natAbs - b.natAbs) (a + b) (by rw [if_pos rfl]; omega) ls
      generalize decZ a = x at *
      generalize decZ b = y at *
      generalize decZ (a + b) = z at *
      refine pureC_of (rs := [(RV.tmp 4)]) Tryd.func81 (fun a w => Tryd.call81 a w) body81 cc81 (by kernel_rfl) ?_
      rw [Tryd.ntmps81]
      simp only [frs, Nat.reduceAdd, Nat.reduceSub]
      repeat (first | (with_reducible first | refine Way.imp ?_ | refine blk_o rfl ?_) | ((with_reducible refine WayR.imp (fun K hK => ?_)); simp (disch := first | omega | (simp only [dls]; omega)) only [std, reduceIte, reduceCtorEq, Int.reduceToNat, Nat.reduceAdd, Nat.reduceSub, Nat.reduceMul, Int.reduceAdd, Int.reduceSub, Int.reduceMul, Int.reduceNeg, fU, constAV_arr, cons_beq_nil, nil_beq_nil, lenAV_str, constAV_digStr, digList_len, List.take_length]; subst hK) | refine zcA (ba) rfl rfl rfl ?_ | refine zcA (bb) rfl rfl rfl ?_ | refine zcA (sa) rfl rfl rfl ?_ | refine zcA (sb) rfl rfl rfl ?_ | refine zcA (hless) rfl rfl rfl ?_ | refine zcA (hsub) rfl rfl rfl ?_ | refine zcA (hm) rfl rfl rfl ?_)
      exact ⟨_, rfl, rfl⟩
  · rw [show decide (a < 0) = false from by simp [h1]] at ba
    rw [show decide (b < 0) = true from by simp [h2]] at bb
    by_cases hlt : a.natAbs < b.natAbs
    · rw [show decide (a.natAbs < b.natAbs) = true from by simp [hlt]] at hless
      have hsub := tsub_C (dec b.natAbs) (dec a.natAbs) (dec_dig _) (dec_dig _) (by omega) (by omega) (by rw [tv_dec, tv_dec]; omega)
      rw [tv_dec, tv_dec] at hsub
      have ls : (dec (b.natAbs - a.natAbs)).length ≤ 100000000000 := by have := (short_of (Nat.le_trans (digits_len_mono (Nat.sub_le b.natAbs a.natAbs)) hb) (by decide)).1; omega
      have hm := made_C true (b.natAbs - a.natAbs) (a + b) (by rw [if_pos rfl]; omega) ls
      generalize decZ a = x at *
      generalize decZ b = y at *
      generalize decZ (a + b) = z at *
      refine pureC_of (rs := [(RV.tmp 4)]) Tryd.func81 (fun a w => Tryd.call81 a w) body81 cc81 (by kernel_rfl) ?_
      rw [Tryd.ntmps81]
      simp only [frs, Nat.reduceAdd, Nat.reduceSub]
      repeat (first | (with_reducible first | refine Way.imp ?_ | refine blk_o rfl ?_) | ((with_reducible refine WayR.imp (fun K hK => ?_)); simp (disch := first | omega | (simp only [dls]; omega)) only [std, reduceIte, reduceCtorEq, Int.reduceToNat, Nat.reduceAdd, Nat.reduceSub, Nat.reduceMul, Int.reduceAdd, Int.reduceSub, Int.reduceMul, Int.reduceNeg, fU, constAV_arr, cons_beq_nil, nil_beq_nil, lenAV_str, constAV_digStr, digList_len, List.take_length]; subst hK) | refine zcA (ba) rfl rfl rfl ?_ | refine zcA (bb) rfl rfl rfl ?_ | refine zcA (sa) rfl rfl rfl ?_ | refine zcA (sb) rfl rfl rfl ?_ | refine zcA (hless) rfl rfl rfl ?_ | refine zcA (hsub) rfl rfl rfl ?_ | refine zcA (hm) rfl rfl rfl ?_)
      exact ⟨_, rfl, rfl⟩
    · rw [show decide (a.natAbs < b.natAbs) = false from by simp [hlt]] at hless
      have hsub := tsub_C (dec a.natAbs) (dec b.natAbs) (dec_dig _) (dec_dig _) (by omega) (by omega) (by rw [tv_dec, tv_dec]; omega)
      rw [tv_dec, tv_dec] at hsub
      have ls : (dec (a.natAbs - b.natAbs)).length ≤ 100000000000 := by have := (short_of (Nat.le_trans (digits_len_mono (Nat.sub_le a.natAbs b.natAbs)) ha) (by decide)).1; omega
      have hm := made_C false (a.natAbs - b.natAbs) (a + b) (by rw [if_neg (by decide)]; omega) ls
      generalize decZ a = x at *
      generalize decZ b = y at *
      generalize decZ (a + b) = z at *
      refine pureC_of (rs := [(RV.tmp 4)]) Tryd.func81 (fun a w => Tryd.call81 a w) body81 cc81 (by kernel_rfl) ?_
      rw [Tryd.ntmps81]
      simp only [frs, Nat.reduceAdd, Nat.reduceSub]
      repeat (first | (with_reducible first | refine Way.imp ?_ | refine blk_o rfl ?_) | ((with_reducible refine WayR.imp (fun K hK => ?_)); simp (disch := first | omega | (simp only [dls]; omega)) only [std, reduceIte, reduceCtorEq, Int.reduceToNat, Nat.reduceAdd, Nat.reduceSub, Nat.reduceMul, Int.reduceAdd, Int.reduceSub, Int.reduceMul, Int.reduceNeg, fU, constAV_arr, cons_beq_nil, nil_beq_nil, lenAV_str, constAV_digStr, digList_len, List.take_length]; subst hK) | refine zcA (ba) rfl rfl rfl ?_ | refine zcA (bb) rfl rfl rfl ?_ | refine zcA (sa) rfl rfl rfl ?_ | refine zcA (sb) rfl rfl rfl ?_ | refine zcA (hless) rfl rfl rfl ?_ | refine zcA (hsub) rfl rfl rfl ?_ | refine zcA (hm) rfl rfl rfl ?_)
      exact ⟨_, rfl, rfl⟩
  · rw [show decide (a < 0) = false from by simp [h1]] at ba
    rw [show decide (b < 0) = false from by simp [h2]] at bb
    have hm := made_C false (a.natAbs + b.natAbs) (a + b) (by rw [if_neg (by decide)]; omega) lsum
    generalize decZ a = x at *
    generalize decZ b = y at *
    generalize decZ (a + b) = z at *
    refine pureC_of (rs := [(RV.tmp 4)]) Tryd.func81 (fun a w => Tryd.call81 a w) body81 cc81 (by kernel_rfl) ?_
    rw [Tryd.ntmps81]
    simp only [frs, Nat.reduceAdd, Nat.reduceSub]
    repeat (first | (with_reducible first | refine Way.imp ?_ | refine blk_o rfl ?_) | ((with_reducible refine WayR.imp (fun K hK => ?_)); simp (disch := first | omega | (simp only [dls]; omega)) only [std, reduceIte, reduceCtorEq, Int.reduceToNat, Nat.reduceAdd, Nat.reduceSub, Nat.reduceMul, Int.reduceAdd, Int.reduceSub, Int.reduceMul, Int.reduceNeg, fU, constAV_arr, cons_beq_nil, nil_beq_nil, lenAV_str, constAV_digStr, digList_len, List.take_length]; subst hK) | refine zcA (ba) rfl rfl rfl ?_ | refine zcA (bb) rfl rfl rfl ?_ | refine zcA (sa) rfl rfl rfl ?_ | refine zcA (sb) rfl rfl rfl ?_ | refine zcA (hadd) rfl rfl rfl ?_ | refine zcA (hm) rfl rfl rfl ?_)
    exact ⟨_, rfl, rfl⟩

abbrev c53 : CC := (.seq (.reg [⟨(some 4), none, (.mv (.const (.string ⟨#[]⟩)))⟩]) (.seq (.reg [⟨(some 5), none, (.mv (.tmp 0))⟩, ⟨(some 6), none, (.callf (.func 83) [(.tmp 5)])⟩, ⟨(some 7), none, (.mv (.tmp 1))⟩, ⟨(some 8), none, (.callf (.func 83) [(.tmp 7)])⟩, ⟨(some 9), none, (.beq true (.tmp 6) (.tmp 8))⟩, ⟨(some 10), none, (.mv (.tmp 0))⟩, ⟨(some 11), none, (.callf (.func 85) [(.tmp 10)])⟩, ⟨(some 12), none, (.mv (.tmp 1))⟩, ⟨(some 13), none, (.callf (.func 85) [(.tmp 12)])⟩, ⟨(some 14), none, (.callf (.func 82) [(.tmp 11), (.tmp 13)])⟩, ⟨(some 15), none, (.callf (.func 80) [(.tmp 9), (.tmp 14)])⟩, ⟨(some 4), none, (.mv (.tmp 15))⟩]) .ret))
theorem cc53 : ccode Tryd.prog [] (Tryd.f53.body.getD .skip) = some c53 := by kernel_rfl
theorem body53 : Tryd.f53.body = some (Tryd.f53.body.getD .skip) := rfl

theorem zmul_C (a b : Int) (ha : (digits a.natAbs).length ≤ 40000000) (hb : (digits b.natAbs).length ≤ 40000000) : PureC Tryd.prog 53 [aS (decZ a), aS (decZ b)] (.ret (aS (decZ (a * b)))) := by
  have ba := below_C a
  have bb := below_C b
  have sa := size_C a
  have sb := size_C b
  have la := slen ha (by decide)
  have lb := slen hb (by decide)
  have hmul := tmul_C (dec a.natAbs) (dec b.natAbs) (dec_dig _) (dec_dig _) (by omega) (by omega)
  rw [tv_dec, tv_dec] at hmul
  have lp : (dec (a.natAbs * b.natAbs)).length ≤ 100000000000 := by
    have h1 := digits_len_mul a.natAbs b.natAbs
    have h2 := (short_of (n := a.natAbs * b.natAbs) (L := 90000000) (by omega) (by decide)).1
    omega
  have hab : (a * b).natAbs = a.natAbs * b.natAbs := Int.natAbs_mul a b
  by_cases h1 : a < 0 <;> by_cases h2 : b < 0
  · rw [show decide (a < 0) = true from by simp [h1]] at ba
    rw [show decide (b < 0) = true from by simp [h2]] at bb
    have hp := Int.mul_pos_of_neg_of_neg h1 h2
    have hm := made_C false (a.natAbs * b.natAbs) (a * b) (by rw [if_neg (by decide)]; omega) lp
    generalize decZ a = x at *
    generalize decZ b = y at *
    generalize decZ (a * b) = z at *
    refine pureC_of (rs := [(RV.tmp 4)]) Tryd.func53 (fun a w => Tryd.call53 a w) body53 cc53 (by kernel_rfl) ?_
    rw [Tryd.ntmps53]
    simp only [frs, Nat.reduceAdd, Nat.reduceSub]
    repeat (first | (with_reducible first | refine Way.imp ?_ | refine blk_o rfl ?_) | ((with_reducible refine WayR.imp (fun K hK => ?_)); simp (disch := first | omega | (simp only [dls]; omega)) only [std, reduceIte, reduceCtorEq, Int.reduceToNat, Nat.reduceAdd, Nat.reduceSub, Nat.reduceMul, Int.reduceAdd, Int.reduceSub, Int.reduceMul, Int.reduceNeg, fU, constAV_arr, cons_beq_nil, nil_beq_nil, lenAV_str, constAV_digStr, digList_len, List.take_length]; subst hK) | refine zcA (ba) rfl rfl rfl ?_ | refine zcA (bb) rfl rfl rfl ?_ | refine zcA (sa) rfl rfl rfl ?_ | refine zcA (sb) rfl rfl rfl ?_ | refine zcA (hmul) rfl rfl rfl ?_ | refine zcA (hm) rfl rfl rfl ?_)
    exact ⟨_, rfl, rfl⟩
  · rw [show decide (a < 0) = true from by simp [h1]] at ba
    rw [show decide (b < 0) = false from by simp [h2]] at bb
    have hp := Int.mul_nonpos_of_nonpos_of_nonneg (a := a) (b := b) (by omega) (by omega)
    have hm := made_C true (a.natAbs * b.natAbs) (a * b) (by rw [if_pos rfl]; omega) lp
    generalize decZ a = x at *
    generalize decZ b = y at *
    generalize decZ (a * b) = z at *
    refine pureC_of (rs := [(RV.tmp 4)]) Tryd.func53 (fun a w => Tryd.call53 a w) body53 cc53 (by kernel_rfl) ?_
    rw [Tryd.ntmps53]
    simp only [frs, Nat.reduceAdd, Nat.reduceSub]
    repeat (first | (with_reducible first | refine Way.imp ?_ | refine blk_o rfl ?_) | ((with_reducible refine WayR.imp (fun K hK => ?_)); simp (disch := first | omega | (simp only [dls]; omega)) only [std, reduceIte, reduceCtorEq, Int.reduceToNat, Nat.reduceAdd, Nat.reduceSub, Nat.reduceMul, Int.reduceAdd, Int.reduceSub, Int.reduceMul, Int.reduceNeg, fU, constAV_arr, cons_beq_nil, nil_beq_nil, lenAV_str, constAV_digStr, digList_len, List.take_length]; subst hK) | refine zcA (ba) rfl rfl rfl ?_ | refine zcA (bb) rfl rfl rfl ?_ | refine zcA (sa) rfl rfl rfl ?_ | refine zcA (sb) rfl rfl rfl ?_ | refine zcA (hmul) rfl rfl rfl ?_ | refine zcA (hm) rfl rfl rfl ?_)
    exact ⟨_, rfl, rfl⟩
  · rw [show decide (a < 0) = false from by simp [h1]] at ba
    rw [show decide (b < 0) = true from by simp [h2]] at bb
    have hp := Int.mul_nonpos_of_nonneg_of_nonpos (a := a) (b := b) (by omega) (by omega)
    have hm := made_C true (a.natAbs * b.natAbs) (a * b) (by rw [if_pos rfl]; omega) lp
    generalize decZ a = x at *
    generalize decZ b = y at *
    generalize decZ (a * b) = z at *
    refine pureC_of (rs := [(RV.tmp 4)]) Tryd.func53 (fun a w => Tryd.call53 a w) body53 cc53 (by kernel_rfl) ?_
    rw [Tryd.ntmps53]
    simp only [frs, Nat.reduceAdd, Nat.reduceSub]
    repeat (first | (with_reducible first | refine Way.imp ?_ | refine blk_o rfl ?_) | ((with_reducible refine WayR.imp (fun K hK => ?_)); simp (disch := first | omega | (simp only [dls]; omega)) only [std, reduceIte, reduceCtorEq, Int.reduceToNat, Nat.reduceAdd, Nat.reduceSub, Nat.reduceMul, Int.reduceAdd, Int.reduceSub, Int.reduceMul, Int.reduceNeg, fU, constAV_arr, cons_beq_nil, nil_beq_nil, lenAV_str, constAV_digStr, digList_len, List.take_length]; subst hK) | refine zcA (ba) rfl rfl rfl ?_ | refine zcA (bb) rfl rfl rfl ?_ | refine zcA (sa) rfl rfl rfl ?_ | refine zcA (sb) rfl rfl rfl ?_ | refine zcA (hmul) rfl rfl rfl ?_ | refine zcA (hm) rfl rfl rfl ?_)
    exact ⟨_, rfl, rfl⟩
  · rw [show decide (a < 0) = false from by simp [h1]] at ba
    rw [show decide (b < 0) = false from by simp [h2]] at bb
    have hp := Int.mul_nonneg (a := a) (b := b) (by omega) (by omega)
    have hm := made_C false (a.natAbs * b.natAbs) (a * b) (by rw [if_neg (by decide)]; omega) lp
    generalize decZ a = x at *
    generalize decZ b = y at *
    generalize decZ (a * b) = z at *
    refine pureC_of (rs := [(RV.tmp 4)]) Tryd.func53 (fun a w => Tryd.call53 a w) body53 cc53 (by kernel_rfl) ?_
    rw [Tryd.ntmps53]
    simp only [frs, Nat.reduceAdd, Nat.reduceSub]
    repeat (first | (with_reducible first | refine Way.imp ?_ | refine blk_o rfl ?_) | ((with_reducible refine WayR.imp (fun K hK => ?_)); simp (disch := first | omega | (simp only [dls]; omega)) only [std, reduceIte, reduceCtorEq, Int.reduceToNat, Nat.reduceAdd, Nat.reduceSub, Nat.reduceMul, Int.reduceAdd, Int.reduceSub, Int.reduceMul, Int.reduceNeg, fU, constAV_arr, cons_beq_nil, nil_beq_nil, lenAV_str, constAV_digStr, digList_len, List.take_length]; subst hK) | refine zcA (ba) rfl rfl rfl ?_ | refine zcA (bb) rfl rfl rfl ?_ | refine zcA (sa) rfl rfl rfl ?_ | refine zcA (sb) rfl rfl rfl ?_ | refine zcA (hmul) rfl rfl rfl ?_ | refine zcA (hm) rfl rfl rfl ?_)
    exact ⟨_, rfl, rfl⟩

abbrev c52 : CC := (.seq (.reg [⟨(some 4), none, (.mv (.const (.bool false)))⟩]) (.seq (.reg [⟨(some 5), none, (.mv (.tmp 0))⟩, ⟨(some 6), none, (.mv (.tmp 1))⟩, ⟨(some 7), none, (.callf (.func 84) [(.tmp 6)])⟩, ⟨(some 8), none, (.callf (.func 81) [(.tmp 5), (.tmp 7)])⟩, ⟨(some 9), none, (.callf (.func 83) [(.tmp 8)])⟩, ⟨(some 4), none, (.mv (.tmp 9))⟩]) .ret))
theorem cc52 : ccode Tryd.prog [] (Tryd.f52.body.getD .skip) = some c52 := by kernel_rfl
theorem body52 : Tryd.f52.body = some (Tryd.f52.body.getD .skip) := rfl

theorem zless_C (a b : Int) (ha : (digits a.natAbs).length ≤ 40000000) (hb : (digits b.natAbs).length ≤ 40000000) : PureC Tryd.prog 52 [aS (decZ a), aS (decZ b)] (.ret (aB (decide (a < b)))) := by
  have hn := zneg_C b (by omega)
  have hadd := zadd_C a (-b) ha (by rw [Int.natAbs_neg]; exact hb)
  have hbl := below_C (a + -b)
  rw [show decide (a + -b < 0) = decide (a < b) from by simp; omega] at hbl
  generalize decide (a < b) = r at *
  generalize decZ a = x at *
  generalize decZ b = y at *
  generalize decZ (-b) = u at *
  generalize decZ (a + -b) = z at *
  refine pureC_of (rs := [(RV.tmp 4)]) Tryd.func52 (fun a w => Tryd.call52 a w) body52 cc52 (by kernel_rfl) ?_
  rw [Tryd.ntmps52]
  simp only [frs, Nat.reduceAdd, Nat.reduceSub]
  repeat (first | (with_reducible first | refine Way.imp ?_ | refine blk_o rfl ?_) | ((with_reducible refine WayR.imp (fun K hK => ?_)); simp (disch := first | omega | (simp only [dls]; omega)) only [std, reduceIte, reduceCtorEq, Int.reduceToNat, Nat.reduceAdd, Nat.reduceSub, Nat.reduceMul, Int.reduceAdd, Int.reduceSub, Int.reduceMul, Int.reduceNeg, fU, constAV_arr, cons_beq_nil, nil_beq_nil, lenAV_str, constAV_digStr, digList_len, List.take_length]; subst hK) | refine zcA (hn) rfl rfl rfl ?_ | refine zcA (hadd) rfl rfl rfl ?_ | refine zcA (hbl) rfl rfl rfl ?_)
  exact ⟨_, rfl, rfl⟩
end Go.Proofs.YtdhkdnmefeeclaaDoor
set_option linter.unusedSimpArgs false
set_option linter.unusedVariables false
set_option maxRecDepth 100000
set_option maxHeartbeats 4000000
namespace Go.Proofs.YtdhkdnmefeeclaaDoor
open Go Go.Am Go.Proofs Go.Off

/-- A fraction as the document has it. -/
abbrev aQ (q : Rat) : AV := .agg [.c (.str (decZ q.num)), .c (.str (dec q.den))]

abbrev c79 : CC := (.seq (.reg [⟨(some 4), none, (.new 28 [(.string ⟨#[]⟩), (.string ⟨#[]⟩)])⟩]) (.seq (.reg [⟨(some 11), none, (.mv (.tmp 0))⟩, ⟨(some 5), none, (.mv (.tmp 11))⟩]) (.seq (.seq (.reg [⟨(some 12), none, (.mv (.tmp 0))⟩, ⟨(some 13), none, (.callf (.func 83) [(.tmp 12)])⟩]) (.cond (.tmp 13) (.reg [⟨(some 14), none, (.mv (.tmp 0))⟩, ⟨(some 15), none, (.sslice (.tmp 14) (some (.const (.int .i64 (1)))) none)⟩, ⟨(some 5), none, (.mv (.tmp 15))⟩]) .skip)) (.seq (.reg [⟨(some 16), none, (.mv (.tmp 5))⟩, ⟨(some 17), none, (.mv (.tmp 1))⟩, ⟨(some 18), none, (.callf (.func 108) [(.tmp 16), (.tmp 17)])⟩, ⟨(some 6), none, (.mv (.tmp 18))⟩]) (.seq (.reg [⟨(some 20), none, (.mv (.tmp 5))⟩, ⟨(some 21), none, (.mv (.tmp 6))⟩, ⟨(some 22), none, (.callf (.func 109) [(.tmp 20), (.tmp 21)])⟩, ⟨(some 19), none, (.mv (.tmp 22))⟩, ⟨(some 23), none, (.ext (.tmp 19) 0)⟩, ⟨(some 24), none, (.ext (.tmp 19) 1)⟩, ⟨(some 7), none, (.mv (.tmp 23))⟩, ⟨(some 8), none, (.mv (.tmp 24))⟩]) (.seq (.reg [⟨(some 26), none, (.mv (.tmp 1))⟩, ⟨(some 27), none, (.mv (.tmp 6))⟩, ⟨(some 28), none, (.callf (.func 109) [(.tmp 26), (.tmp 27)])⟩, ⟨(some 25), none, (.mv (.tmp 28))⟩, ⟨(some 29), none, (.ext (.tmp 25) 0)⟩, ⟨(some 30), none, (.ext (.tmp 25) 1)⟩, ⟨(some 9), none, (.mv (.tmp 29))⟩, ⟨(some 10), none, (.mv (.tmp 30))⟩]) (.seq (.reg [⟨(some 31), none, (.mv (.tmp 0))⟩, ⟨(some 32), none, (.callf (.func 83) [(.tmp 31)])⟩, ⟨(some 33), none, (.mv (.tmp 7))⟩, ⟨(some 34), none, (.callf (.func 80) [(.tmp 32), (.tmp 33)])⟩, ⟨(some 35), none, (.mv (.tmp 9))⟩, ⟨(some 36), none, (.build [(.string ⟨#[]⟩), (.string ⟨#[]⟩)] [(0, (1, (.tmp 34))), (1, (1, (.tmp 35)))])⟩, ⟨none, none, (.store 2 (.tmp 4) (.tmp 36))⟩]) .ret)))))))
theorem cc79 : ccode Tryd.prog [] (Tryd.f79.body.getD .skip) = some c79 := by kernel_rfl
theorem body79 : Tryd.f79.body = some (Tryd.f79.body.getD .skip) := rfl

theorem low_C (n : Int) (d : Nat) (hd : d ≠ 0) (hn : (digits n.natAbs).length ≤ 90000000) (hl : (digits d).length ≤ 90000000) : PureC Tryd.prog 79 [aS (decZ n), aS (dec d)] (.ret (aQ (mkRat n d))) := by
  have hb := below_C n
  obtain ⟨l1, s1⟩ := short_of hn (by decide)
  obtain ⟨l2, s2⟩ := short_of hl (by decide)
  have hg := tgcd_C n.natAbs d s1 s2
  have hgp : Nat.gcd n.natAbs d ≠ 0 := fun e => hd (Nat.eq_zero_of_gcd_eq_zero_right e)
  have hgl : (dec (Nat.gcd n.natAbs d)).length ≤ 10000000000 := s2.le (Nat.gcd_le_right _ (Nat.pos_of_ne_zero hd))
  have hd1 := tdivmod_C n.natAbs (Nat.gcd n.natAbs d) s1 hgl hgp
  have hd2 := tdivmod_C d (Nat.gcd n.natAbs d) s2 hgl hgp
  have e1 := make_num n d hd
  have e2 := make_den n d hd
  have e3 := make_neg n d hd
  have hz : dec (n.natAbs / Nat.gcd n.natAbs d) = dec (mkRat n d).num.natAbs := by rw [e1]
  have l3 : (dec (mkRat n d).num.natAbs).length ≤ 100000000000 := by
    rw [e1]; have := s1.le (Nat.div_le_self n.natAbs (Nat.gcd n.natAbs d)); unfold Short at this; omega
  rw [hz] at hd1
  rw [show dec (d / Nat.gcd n.natAbs d) = dec (mkRat n d).den from by rw [e2]] at hd2
  by_cases h : n < 0
  · have hq := e3.2 h
    have hm := made_C true (mkRat n d).num.natAbs (mkRat n d).num (by rw [if_pos rfl]; omega) l3
    rw [show decide (n < 0) = true from by simp [h]] at hb
    rw [decZ_neg h] at hb ⊢
    have hm2 := hm
    clear e1 e2 e3
    generalize dec (mkRat n d).num.natAbs = u at *
    generalize dec (n.natAbs % _) = r1 at *
    generalize dec (d % _) = r2 at *
    generalize dec (Nat.gcd n.natAbs d) = g at *
    refine pureC_of (rs := [(RV.cell 4 2 true)]) Tryd.func79 (fun a w => Tryd.call79 a w) body79 cc79 (by kernel_rfl) ?_
    rw [Tryd.ntmps79]
    simp only [frs, Nat.reduceAdd, Nat.reduceSub]
    repeat (first | (with_reducible first | refine Way.imp ?_ | refine blk_o rfl ?_) | ((with_reducible refine WayR.imp (fun K hK => ?_)); simp (disch := first | omega | (simp only [dls]; omega)) only [std, reduceIte, reduceCtorEq, Int.reduceToNat, Nat.reduceAdd, Nat.reduceSub, Nat.reduceMul, Int.reduceAdd, Int.reduceSub, Int.reduceMul, Int.reduceNeg, fU, constAV_arr, cons_beq_nil, nil_beq_nil, lenAV_str, constAV_digStr, digList_len, List.take_length]; subst hK) | refine zcA (hb) rfl rfl rfl ?_ | refine zcA (hg) rfl rfl rfl ?_ | refine zcA (hd1) rfl rfl rfl ?_ | refine zcA (hd2) rfl rfl rfl ?_ | refine zcA (hm) rfl rfl rfl ?_)
    exact ⟨_, rfl, rfl⟩
  · have hq : ¬ (mkRat n d).num < 0 := fun h2 => h (e3.1 h2)
    have hm := made_C false (mkRat n d).num.natAbs (mkRat n d).num (by rw [if_neg (by decide)]; omega) l3
    rw [show decide (n < 0) = false from by simp [h]] at hb
    rw [decZ_pos h] at hb ⊢
    have hm2 := hm
    clear e1 e2 e3
    generalize dec (mkRat n d).num.natAbs = u at *
    generalize dec (n.natAbs % _) = r1 at *
    generalize dec (d % _) = r2 at *
    generalize dec (Nat.gcd n.natAbs d) = g at *
    refine pureC_of (rs := [(RV.cell 4 2 true)]) Tryd.func79 (fun a w => Tryd.call79 a w) body79 cc79 (by kernel_rfl) ?_
    rw [Tryd.ntmps79]
    simp only [frs, Nat.reduceAdd, Nat.reduceSub]
    repeat (first | (with_reducible first | refine Way.imp ?_ | refine blk_o rfl ?_) | ((with_reducible refine WayR.imp (fun K hK => ?_)); simp (disch := first | omega | (simp only [dls]; omega)) only [std, reduceIte, reduceCtorEq, Int.reduceToNat, Nat.reduceAdd, Nat.reduceSub, Nat.reduceMul, Int.reduceAdd, Int.reduceSub, Int.reduceMul, Int.reduceNeg, fU, constAV_arr, cons_beq_nil, nil_beq_nil, lenAV_str, constAV_digStr, digList_len, List.take_length]; subst hK) | refine zcA (hb) rfl rfl rfl ?_ | refine zcA (hg) rfl rfl rfl ?_ | refine zcA (hd1) rfl rfl rfl ?_ | refine zcA (hd2) rfl rfl rfl ?_ | refine zcA (hm) rfl rfl rfl ?_)
    exact ⟨_, rfl, rfl⟩

theorem dnat (d : Nat) : (d : Int).natAbs = d := Int.natAbs_natCast d
theorem decZ_nat (d : Nat) : decZ (d : Int) = dec d := by rw [decZ_pos (by omega), dnat]

abbrev c51 : CC := (.seq (.reg [⟨(some 2), none, (.box 28 (.tmp 0))⟩, ⟨(some 3), none, (.box 28 (.tmp 1))⟩, ⟨(some 4), none, (.new 28 [(.string ⟨#[]⟩), (.string ⟨#[]⟩)])⟩]) (.seq (.reg [⟨(some 6), none, (.faddr 0 (.tmp 2))⟩, ⟨(some 7), none, (.load 1 false (.tmp 6))⟩, ⟨(some 8), none, (.faddr 1 (.tmp 3))⟩, ⟨(some 9), none, (.load 1 false (.tmp 8))⟩, ⟨(some 10), none, (.callf (.func 53) [(.tmp 7), (.tmp 9)])⟩, ⟨(some 11), none, (.faddr 0 (.tmp 3))⟩, ⟨(some 12), none, (.load 1 false (.tmp 11))⟩, ⟨(some 13), none, (.faddr 1 (.tmp 2))⟩, ⟨(some 14), none, (.load 1 false (.tmp 13))⟩, ⟨(some 15), none, (.callf (.func 53) [(.tmp 12), (.tmp 14)])⟩, ⟨(some 16), none, (.callf (.func 81) [(.tmp 10), (.tmp 15)])⟩, ⟨(some 5), none, (.mv (.tmp 16))⟩]) (.seq (.reg [⟨(some 17), none, (.mv (.tmp 5))⟩, ⟨(some 18), none, (.faddr 1 (.tmp 2))⟩, ⟨(some 19), none, (.load 1 false (.tmp 18))⟩, ⟨(some 20), none, (.faddr 1 (.tmp 3))⟩, ⟨(some 21), none, (.load 1 false (.tmp 20))⟩, ⟨(some 22), none, (.callf (.func 82) [(.tmp 19), (.tmp 21)])⟩, ⟨(some 23), none, (.callf (.func 79) [(.tmp 17), (.tmp 22)])⟩, ⟨none, none, (.store 2 (.tmp 4) (.tmp 23))⟩]) .ret)))
theorem cc51 : ccode Tryd.prog [] (Tryd.f51.body.getD .skip) = some c51 := by kernel_rfl
theorem body51 : Tryd.f51.body = some (Tryd.f51.body.getD .skip) := rfl

theorem qadd_C (a b : Rat) (ha : FitsQ a 9000000) (hb : FitsQ b 9000000) : PureC Tryd.prog 51 [aQ a, aQ b] (.ret (aQ (a + b))) := by
  have h1 := ha.1; have h2 := ha.2; have h3 := hb.1; have h4 := hb.2
  have m1 := zmul_C a.num b.den (by omega) (by rw [dnat]; omega)
  have m2 := zmul_C b.num a.den (by omega) (by rw [dnat]; omega)
  rw [decZ_nat] at m1 m2
  have l1 := digits_len_mul a.num.natAbs b.den
  have l2 := digits_len_mul b.num.natAbs a.den
  have l3 := digits_len_mul a.den b.den
  have l4 := digits_len_add (a.num.natAbs * b.den) (b.num.natAbs * a.den)
  have l5 : (a.num * b.den + b.num * a.den).natAbs ≤ a.num.natAbs * b.den + b.num.natAbs * a.den := by
    have := Int.natAbs_add_le (a.num * b.den) (b.num * a.den)
    rwa [Int.natAbs_mul, Int.natAbs_mul, Int.natAbs_natCast, Int.natAbs_natCast] at this
  have l6 := digits_len_mono l5
  have hs := zadd_C (a.num * b.den) (b.num * a.den) (by rw [Int.natAbs_mul, dnat]; omega) (by rw [Int.natAbs_mul, dnat]; omega)
  have s1 := (short_of h2 (by decide)).1
  have s2 := (short_of h4 (by decide)).1
  have m3 := tmul_C (dec a.den) (dec b.den) (dec_dig _) (dec_dig _) (by omega) (by omega)
  rw [tv_dec, tv_dec] at m3
  have hlow := low_C (a.num * b.den + b.num * a.den) (a.den * b.den) (Nat.mul_ne_zero a.den_nz b.den_nz) (by omega) (by omega)
  rw [← Rat.add_def'] at hlow
  generalize decZ (a + b).num = x at *
  generalize dec (a + b).den = y at *
  generalize decZ (a.num * b.den + b.num * a.den) = u at *
  generalize decZ (a.num * b.den) = v at *
  generalize decZ (b.num * a.den) = w at *
  generalize dec (a.den * b.den) = z at *
  refine pureC_of (rs := [(RV.cell 4 2 true)]) Tryd.func51 (fun a w => Tryd.call51 a w) body51 cc51 (by kernel_rfl) ?_
  rw [Tryd.ntmps51]
  simp only [frs, Nat.reduceAdd, Nat.reduceSub]
  repeat (first | (with_reducible first | refine Way.imp ?_ | refine blk_o rfl ?_) | ((with_reducible refine WayR.imp (fun K hK => ?_)); simp (disch := first | omega | (simp only [dls]; omega)) only [std, reduceIte, reduceCtorEq, Int.reduceToNat, Nat.reduceAdd, Nat.reduceSub, Nat.reduceMul, Int.reduceAdd, Int.reduceSub, Int.reduceMul, Int.reduceNeg, fU, constAV_arr, cons_beq_nil, nil_beq_nil, lenAV_str, constAV_digStr, digList_len, List.take_length]; subst hK) | refine zcA (m1) rfl rfl rfl ?_ | refine zcA (m2) rfl rfl rfl ?_ | refine zcA (hs) rfl rfl rfl ?_ | refine zcA (m3) rfl rfl rfl ?_ | refine zcA (hlow) rfl rfl rfl ?_)
  exact ⟨_, rfl, rfl⟩

abbrev c19 : CC := (.seq (.reg [⟨(some 2), none, (.box 28 (.tmp 0))⟩, ⟨(some 3), none, (.box 28 (.tmp 1))⟩, ⟨(some 4), none, (.mv (.const (.bool false)))⟩]) (.seq (.reg [⟨(some 5), none, (.faddr 0 (.tmp 2))⟩, ⟨(some 6), none, (.load 1 false (.tmp 5))⟩, ⟨(some 7), none, (.faddr 1 (.tmp 3))⟩, ⟨(some 8), none, (.load 1 false (.tmp 7))⟩, ⟨(some 9), none, (.callf (.func 53) [(.tmp 6), (.tmp 8)])⟩, ⟨(some 10), none, (.faddr 0 (.tmp 3))⟩, ⟨(some 11), none, (.load 1 false (.tmp 10))⟩, ⟨(some 12), none, (.faddr 1 (.tmp 2))⟩, ⟨(some 13), none, (.load 1 false (.tmp 12))⟩, ⟨(some 14), none, (.callf (.func 53) [(.tmp 11), (.tmp 13)])⟩, ⟨(some 15), none, (.callf (.func 52) [(.tmp 9), (.tmp 14)])⟩, ⟨(some 4), none, (.mv (.tmp 15))⟩]) .ret))
theorem cc19 : ccode Tryd.prog [] (Tryd.f19.body.getD .skip) = some c19 := by kernel_rfl
theorem body19 : Tryd.f19.body = some (Tryd.f19.body.getD .skip) := rfl

theorem qless_C (a b : Rat) (ha : FitsQ a 9000000) (hb : FitsQ b 9000000) : PureC Tryd.prog 19 [aQ a, aQ b] (.ret (aB (decide (a < b)))) := by
  have h1 := ha.1; have h2 := ha.2; have h3 := hb.1; have h4 := hb.2
  have m1 := zmul_C a.num b.den (by omega) (by rw [dnat]; omega)
  have m2 := zmul_C b.num a.den (by omega) (by rw [dnat]; omega)
  rw [decZ_nat] at m1 m2
  have l1 := digits_len_mul a.num.natAbs b.den
  have l2 := digits_len_mul b.num.natAbs a.den
  have hl := zless_C (a.num * b.den) (b.num * a.den) (by rw [Int.natAbs_mul, dnat]; omega) (by rw [Int.natAbs_mul, dnat]; omega)
  rw [show decide (a.num * b.den < b.num * a.den) = decide (a < b) from by simp only [Rat.lt_iff a b]] at hl
  generalize decide (a < b) = r at *
  generalize decZ (a.num * b.den) = v at *
  generalize decZ (b.num * a.den) = w at *
  refine pureC_of (rs := [(RV.tmp 4)]) Tryd.func19 (fun a w => Tryd.call19 a w) body19 cc19 (by kernel_rfl) ?_
  rw [Tryd.ntmps19]
  simp only [frs, Nat.reduceAdd, Nat.reduceSub]
  repeat (first | (with_reducible first | refine Way.imp ?_ | refine blk_o rfl ?_) | ((with_reducible refine WayR.imp (fun K hK => ?_)); simp (disch := first | omega | (simp only [dls]; omega)) only [std, reduceIte, reduceCtorEq, Int.reduceToNat, Nat.reduceAdd, Nat.reduceSub, Nat.reduceMul, Int.reduceAdd, Int.reduceSub, Int.reduceMul, Int.reduceNeg, fU, constAV_arr, cons_beq_nil, nil_beq_nil, lenAV_str, constAV_digStr, digList_len, List.take_length]; subst hK) | refine zcA (m1) rfl rfl rfl ?_ | refine zcA (m2) rfl rfl rfl ?_ | refine zcA (hl) rfl rfl rfl ?_)
  exact ⟨_, rfl, rfl⟩

theorem dec_eq_one (b : Nat) : (dec b == [49]) = decide (b = 1) := by
  by_cases h : b = 1
  · subst h; have : dec 1 = [49] := by have h := dec_tv (s := [49]) (by simp) (by simp [isDig]) (by simp); rwa [show tv [49] = 1 from by decide] at h
    rw [this]; rfl
  · have : dec b ≠ [49] := fun e => h (by rw [← tv_dec b, e]; rfl)
    simp [h, this]

abbrev c50 : CC := (.seq (.reg [⟨(some 1), none, (.box 45 (.tmp 0))⟩, ⟨(some 2), none, (.new 28 [(.string ⟨#[]⟩), (.string ⟨#[]⟩)])⟩]) (.seq (.reg [⟨(some 4), none, (.faddr 2 (.tmp 1))⟩, ⟨(some 5), none, (.load 1 false (.tmp 4))⟩, ⟨(some 6), none, (.callf (.func 78) [(.tmp 5)])⟩, ⟨(some 3), none, (.mv (.tmp 6))⟩]) (.seq (.seq (.reg [⟨(some 7), none, (.mv (.tmp 3))⟩, ⟨(some 8), none, (.bin .eql (.tmp 7) (.const (.string ⟨#[48]⟩)))⟩]) (.cond (.tmp 8) (.reg [⟨(some 3), none, (.mv (.const (.string ⟨#[49]⟩)))⟩]) .skip)) (.seq (.reg [⟨(some 9), none, (.faddr 0 (.tmp 1))⟩, ⟨(some 10), none, (.faddr 0 (.tmp 9))⟩, ⟨(some 11), none, (.load 1 false (.tmp 10))⟩, ⟨(some 12), none, (.faddr 0 (.tmp 1))⟩, ⟨(some 13), none, (.faddr 1 (.tmp 12))⟩, ⟨(some 14), none, (.load 1 false (.tmp 13))⟩, ⟨(some 15), none, (.callf (.func 78) [(.tmp 14)])⟩, ⟨(some 16), none, (.callf (.func 80) [(.tmp 11), (.tmp 15)])⟩, ⟨(some 17), none, (.mv (.tmp 3))⟩, ⟨(some 18), none, (.callf (.func 79) [(.tmp 16), (.tmp 17)])⟩, ⟨none, none, (.store 2 (.tmp 2) (.tmp 18))⟩]) .ret))))
theorem cc50 : ccode Tryd.prog [] (Tryd.f50.body.getD .skip) = some c50 := by kernel_rfl
theorem body50 : Tryd.f50.body = some (Tryd.f50.body.getD .skip) := rfl

theorem lof_C (r : RR) (h : Fits r 9000000) : PureC Tryd.prog 50 [aR r] (.ret (aQ r.val)) := by
  have h1 := h.1; have h2 := h.2
  have o1 := tof_C r.den (by omega)
  have o2 := tof_C r.size (by omega)
  have s1 := row_len_val r.size
  have s2 := row_len_val r.den
  have hl := (short_of (Nat.le_trans s1 h1) (by decide)).1
  have hm := made_C r.minus r.size.val r.top rfl (by omega)
  have hlow := low_C r.top r.bot r.bot_ne (by have := h.top; omega) (by have := h.bot (by decide); omega)
  have hz := dec_eq_zero r.den.val
  change PureC _ _ _ (.ret (aQ r.val)) at hlow
  unfold RR.bot at hlow
  generalize decZ r.top = t at *
  generalize decZ r.val.num = x at *
  generalize dec r.val.den = y at *
  by_cases h0 : r.den.val = 0
  · rw [show decide (r.den.val = 0) = true from by simp [h0]] at hz
    rw [if_pos h0, show dec 1 = [49] from by have h := dec_eq_one 1; simpa using h] at hlow
    refine pureC_of (rs := [(RV.cell 2 2 true)]) Tryd.func50 (fun a w => Tryd.call50 a w) body50 cc50 (by kernel_rfl) ?_
    rw [Tryd.ntmps50]
    simp only [frs, Nat.reduceAdd, Nat.reduceSub]
    repeat (first | (with_reducible first | refine Way.imp ?_ | refine blk_o rfl ?_) | ((with_reducible refine WayR.imp (fun K hK => ?_)); simp (disch := first | omega | (simp only [dls]; omega)) only [std, reduceIte, reduceCtorEq, Int.reduceToNat, Nat.reduceAdd, Nat.reduceSub, Nat.reduceMul, Int.reduceAdd, Int.reduceSub, Int.reduceMul, Int.reduceNeg, fU, constAV_arr, cons_beq_nil, nil_beq_nil, lenAV_str, constAV_digStr, digList_len, List.take_length, hz]; subst hK) | refine zcA (o1) rfl rfl rfl ?_ | refine zcA (o2) rfl rfl rfl ?_ | refine zcA (hm) rfl rfl rfl ?_ | refine zcA (hlow) rfl rfl rfl ?_)
    exact ⟨_, rfl, rfl⟩
  · rw [show decide (r.den.val = 0) = false from by simp [h0]] at hz
    rw [if_neg h0] at hlow
    refine pureC_of (rs := [(RV.cell 2 2 true)]) Tryd.func50 (fun a w => Tryd.call50 a w) body50 cc50 (by kernel_rfl) ?_
    rw [Tryd.ntmps50]
    simp only [frs, Nat.reduceAdd, Nat.reduceSub]
    repeat (first | (with_reducible first | refine Way.imp ?_ | refine blk_o rfl ?_) | ((with_reducible refine WayR.imp (fun K hK => ?_)); simp (disch := first | omega | (simp only [dls]; omega)) only [std, reduceIte, reduceCtorEq, Int.reduceToNat, Nat.reduceAdd, Nat.reduceSub, Nat.reduceMul, Int.reduceAdd, Int.reduceSub, Int.reduceMul, Int.reduceNeg, fU, constAV_arr, cons_beq_nil, nil_beq_nil, lenAV_str, constAV_digStr, digList_len, List.take_length, hz]; subst hK) | refine zcA (o1) rfl rfl rfl ?_ | refine zcA (o2) rfl rfl rfl ?_ | refine zcA (hm) rfl rfl rfl ?_ | refine zcA (hlow) rfl rfl rfl ?_)
    exact ⟨_, rfl, rfl⟩

theorem decZ_inj {a b : Int} (h : decZ a = decZ b) : a = b := by
  by_cases h1 : a < 0 <;> by_cases h2 : b < 0
  · rw [decZ_neg h1, decZ_neg h2, List.cons.injEq] at h
    have := dec_inj h.2; omega
  · rw [decZ_neg h1, decZ_pos h2] at h
    obtain ⟨c, t, e1, e2⟩ := dec_cons b.natAbs
    rw [e1, List.cons.injEq] at h
    exact absurd (by rw [← h.1]; rfl) e2
  · rw [decZ_pos h1, decZ_neg h2] at h
    obtain ⟨c, t, e1, e2⟩ := dec_cons a.natAbs
    rw [e1, List.cons.injEq] at h
    exact absurd (by rw [h.1]; rfl) e2
  · rw [decZ_pos h1, decZ_pos h2] at h
    have := dec_inj h; omega
theorem rat_eq_beq (a b : Rat) : ([decZ a.num, dec a.den] == [decZ b.num, dec b.den]) = decide (a = b) := by
  by_cases h : a = b
  · subst h; simp
  · have : ¬ ([decZ a.num, dec a.den] = [decZ b.num, dec b.den]) := fun e => by
      simp only [List.cons.injEq, and_true] at e
      exact h (Rat.ext (decZ_inj e.1) (dec_inj e.2))
    simp only [h, decide_false]
    exact beq_eq_false_iff_ne.2 this

abbrev c41 : CC := (.seq (.reg [⟨(some 2), none, (.box 45 (.tmp 0))⟩, ⟨(some 3), none, (.box 28 (.tmp 1))⟩, ⟨(some 4), none, (.mv (.const (.bool false)))⟩]) (.seq (.reg [⟨(some 5), none, (.faddr 2 (.tmp 2))⟩, ⟨(some 6), none, (.load 1 false (.tmp 5))⟩, ⟨(some 7), none, (.len false (.tmp 6))⟩, ⟨(some 8), none, (.bin .gtr (.tmp 7) (.const (.int .i64 (0))))⟩, ⟨(some 9), none, (.mv (.tmp 8))⟩, ⟨(some 10), (some (9, true)), (.load 3 true (.tmp 2))⟩, ⟨(some 11), (some (9, true)), (.callf (.func 71) [(.tmp 10)])⟩, ⟨(some 12), none, (.pick (.tmp 9) (.tmp 11) (.const (.bool false)))⟩, ⟨(some 13), none, (.mv (.tmp 12))⟩, ⟨(some 14), (some (13, true)), (.load 3 true (.tmp 2))⟩, ⟨(some 15), (some (13, true)), (.callf (.func 50) [(.tmp 14)])⟩, ⟨(some 16), (some (13, true)), (.load 2 true (.tmp 3))⟩, ⟨(some 17), (some (13, true)), (.aggeq false 2 (.tmp 15) (.tmp 16))⟩, ⟨(some 18), none, (.pick (.tmp 13) (.tmp 17) (.const (.bool false)))⟩, ⟨(some 4), none, (.mv (.tmp 18))⟩]) .ret))
theorem cc41 : ccode Tryd.prog [] (Tryd.f41.body.getD .skip) = some c41 := by kernel_rfl
theorem body41 : Tryd.f41.body = some (Tryd.f41.body.getD .skip) := rfl

/-- 'Is' of a fraction as the program tells one. -/
theorem is_C (a b : Rat) (h : FitsQ a 9000000) : PureC Tryd.prog 41 [aR (rawQ a), aQ b] (.ret (aB (decide (a = b)))) := by
  have hr := rright_C a (h.mono (by decide))
  have ho := lof_C (rawQ a) (fits_rawQ h)
  rw [rawQ_val] at ho
  have hl : (osl (rawQ a).den).length ≠ 0 := by show (osl (rowN a.den)).length ≠ 0; rw [osl_rowN]; exact Nat.ne_of_gt (digits_len_pos a.den_nz)
  have he := rat_eq_beq a b
  generalize rawQ a = r at *
  generalize decide (a = b) = e at *
  refine pureC_of (rs := [(RV.tmp 4)]) Tryd.func41 (fun a w => Tryd.call41 a w) body41 cc41 (by kernel_rfl) ?_
  rw [Tryd.ntmps41]
  simp only [frs, Nat.reduceAdd, Nat.reduceSub]
  repeat (first | (with_reducible first | refine Way.imp ?_ | refine blk_o rfl ?_) | ((with_reducible refine WayR.imp (fun K hK => ?_)); simp (disch := first | omega | (simp only [dls]; omega)) only [std, reduceIte, reduceCtorEq, Int.reduceToNat, Nat.reduceAdd, Nat.reduceSub, Nat.reduceMul, Int.reduceAdd, Int.reduceSub, Int.reduceMul, Int.reduceNeg, fU, constAV_arr, cons_beq_nil, nil_beq_nil, lenAV_str, constAV_digStr, digList_len, List.take_length, strCells, he]; subst hK) | (apply call_any_g (hr) rfl; (case hg => simp (disch := first | omega | (simp only [dls]; omega)) only [std, reduceIte, reduceCtorEq, Int.reduceToNat, Nat.reduceAdd, Nat.reduceSub, Nat.reduceMul, Int.reduceAdd, Int.reduceSub, Int.reduceMul, Int.reduceNeg, fU, constAV_arr, cons_beq_nil, nil_beq_nil, lenAV_str, constAV_digStr, digList_len, List.take_length, strCells, he]); (case hcl => (simp only [evs, St.ev, constAV, evl]; (repeat (first | exact closeAVs_nil | (apply closeAVs_cons; (first | (refine close_own3 rfl (by decide)) | (refine close_ownO rfl (by decide) ?_; assumption) | rfl)))); done)); (case hu => rfl)) | (apply call_any_g (ho) rfl; (case hg => simp (disch := first | omega | (simp only [dls]; omega)) only [std, reduceIte, reduceCtorEq, Int.reduceToNat, Nat.reduceAdd, Nat.reduceSub, Nat.reduceMul, Int.reduceAdd, Int.reduceSub, Int.reduceMul, Int.reduceNeg, fU, constAV_arr, cons_beq_nil, nil_beq_nil, lenAV_str, constAV_digStr, digList_len, List.take_length, strCells, he]); (case hcl => (simp only [evs, St.ev, constAV, evl]; (repeat (first | exact closeAVs_nil | (apply closeAVs_cons; (first | (refine close_own3 rfl (by decide)) | (refine close_ownO rfl (by decide) ?_; assumption) | rfl)))); done)); (case hu => rfl)))
  exact ⟨_, rfl, rfl⟩
end Go.Proofs.YtdhkdnmefeeclaaDoor
