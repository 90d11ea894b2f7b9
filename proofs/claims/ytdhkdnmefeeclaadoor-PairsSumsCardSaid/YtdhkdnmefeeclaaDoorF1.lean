/- Walks of offcutref01: cut, at, sign, Add, Sub, Less. -/
import Derived.Test.YtdhkdnmefeeclaaDoorB1
import Derived.Test.YtdhkdnmefeeclaaDoorC3
set_option linter.unusedSimpArgs false
set_option linter.unusedVariables false
set_option linter.unnecessarySimpa false
set_option linter.unusedSimpArgs false
set_option linter.unusedVariables false
set_option maxRecDepth 100000
set_option maxHeartbeats 4000000
namespace Go.Proofs.YtdhkdnmefeeclaaDoor
open Go Go.Am Go.Proofs Go.Off

theorem lenAV_str {h : List Blk} {s : List UInt8} : lenAV h true (.one (.c (.str s))) = some s.length := rfl
theorem getE {α : Type} {l : List α} {i : Nat} (h : i < l.length) : l[i]? = some l[i] := List.getElem?_eq_getElem h
def digList : List UInt8 := [48, 49, 50, 51, 52, 53, 54, 55, 56, 57]
def digStr : Value := .string ⟨#[48, 49, 50, 51, 52, 53, 54, 55, 56, 57]⟩
theorem constAV_digStr : constAV digStr = .one (.c (.str digList)) := rfl
theorem digList_len : digList.length = 10 := rfl
theorem digList_at {d : Nat} (h : d < 10) : (digList.take (d + 1)).drop d = [chr d] := by
  have : ∀ d : Fin 10, (digList.take (d.1 + 1)).drop d.1 = [chr d.1] := by decide
  exact this ⟨d, h⟩
theorem cons_beq_nil {c : UInt8} {l : List UInt8} : (c :: l == ([] : List UInt8)) = false := rfl
theorem nil_beq_nil : (([] : List UInt8) == []) = true := rfl
theorem chr_val {d : Nat} (h : d < 10) : (chr d).toNat - 48 = d := by rw [chr_toNat h]; omega
theorem add_step10 {A B O c k : Nat} (x y : Nat) (h : O + 10 ^ k * c = A + B) :
    (O + 10 ^ k * ((x + y + c) % 10)) + 10 ^ (k + 1) * ((x + y + c) / 10) = (A + 10 ^ k * x) + (B + 10 ^ k * y) := by
  have e : 10 ^ (k + 1) * ((x + y + c) / 10) = 10 ^ k * (10 * ((x + y + c) / 10)) := by rw [Nat.pow_succ, Nat.mul_assoc]
  rw [e, Nat.add_assoc, ← Nat.mul_add, Nat.mod_add_div, Nat.mul_add, Nat.mul_add]
  omega
theorem sub_step10 {A B O c k : Nat} (x y : Nat) (hy : y < 10) (hc : c ≤ 1) (h : A + 10 ^ k * c = O + B) :
    (A + 10 ^ k * x) + 10 ^ (k + 1) * (1 - (x + 10 - y - c) / 10) = (O + 10 ^ k * ((x + 10 - y - c) % 10)) + (B + 10 ^ k * y) ∨ 10 ≤ x := by
  by_cases hx : 10 ≤ x
  · exact .inr hx
  · left
    have e : 10 ^ (k + 1) * (1 - (x + 10 - y - c) / 10) = 10 ^ k * (10 * (1 - (x + 10 - y - c) / 10)) := by rw [Nat.pow_succ, Nat.mul_assoc]
    rw [e]
    generalize 10 ^ k = p at *
    by_cases hlt : x < y + c
    · have h1 : (x + 10 - y - c) / 10 = 0 := by omega
      have h2 : (x + 10 - y - c) % 10 = x + 10 - y - c := by omega
      rw [h1, h2]
      have : p * (x + 10 - y - c) + p * y + p * c = p * x + p * (10 * (1 - 0)) := by
        rw [← Nat.mul_add, ← Nat.mul_add, ← Nat.mul_add]; congr 1; omega
      omega
    · have h1 : (x + 10 - y - c) / 10 = 1 := by omega
      have h2 : (x + 10 - y - c) % 10 = x - y - c := by omega
      rw [h1, h2]
      have : p * (x - y - c) + p * y + p * c = p * x := by
        rw [← Nat.mul_add, ← Nat.mul_add]; congr 1; omega
      simp only [Nat.sub_self, Nat.mul_zero]
      omega

abbrev c107_k1 : CC := (.seq (.seq (.reg [⟨(some 13), none, (.mv (.tmp 0))⟩, ⟨(some 14), none, (.bin .eql (.tmp 13) (.const (.string ⟨#[]⟩)))⟩]) (.cond (.tmp 14) (.seq (.reg [⟨(some 2), none, (.mv (.const (.string ⟨#[48]⟩)))⟩]) .ret) .skip)) (.seq (.reg [⟨(some 15), none, (.mv (.tmp 0))⟩, ⟨(some 2), none, (.mv (.tmp 15))⟩]) .ret))
abbrev c107_b1 : CC := (.seq (.seq (.reg [⟨(some 3), none, (.mv (.tmp 0))⟩, ⟨(some 4), none, (.len true (.tmp 3))⟩, ⟨(some 5), none, (.bin .gtr (.tmp 4) (.const (.int .i64 (1))))⟩, ⟨(some 6), none, (.mv (.tmp 5))⟩, ⟨(some 7), (some (6, true)), (.mv (.tmp 0))⟩, ⟨(some 8), (some (6, true)), (.sidx (.tmp 7) (.const (.int .i64 (0))))⟩, ⟨(some 9), (some (6, true)), (.bin .eql (.tmp 8) (.const (.int .u8 (48))))⟩, ⟨(some 10), none, (.pick (.tmp 6) (.tmp 9) (.const (.bool false)))⟩]) (.cond (.tmp 10) .skip (.exit 0))) (.block 1 (.reg [⟨(some 11), none, (.mv (.tmp 0))⟩, ⟨(some 12), none, (.sslice (.tmp 11) (some (.const (.int .i64 (1)))) none)⟩, ⟨(some 0), none, (.mv (.tmp 12))⟩])))
abbrev c107 : CC := (.seq (.reg [⟨(some 2), none, (.mv (.const (.string ⟨#[]⟩)))⟩]) (.seq (.block 0 (.loop c107_b1)) c107_k1))
theorem cc107 : ccode Tryd.prog [] (Tryd.f107.body.getD .skip) = some c107 := by kernel_rfl
theorem body107 : Tryd.f107.body = some (Tryd.f107.body.getD .skip) := rfl

theorem cut_C (s : List UInt8) (hd : ∀ c ∈ s, isDig c) (hs : s.length ≤ 1000000000000) : PureC Tryd.prog 107 [aS s] (.ret (aS (dec (tv s)))) := by
  refine pureC_of (rs := [(RV.tmp 2)]) Tryd.func107 (fun a w => Tryd.call107 a w) body107 cc107 (by kernel_rfl) ?_
  rw [Tryd.ntmps107]
  simp only [frs, Nat.reduceAdd, Nat.reduceSub]
  repeat (first | (with_reducible first | refine Way.imp ?_ | refine blk_o rfl ?_) | ((with_reducible refine WayR.imp (fun K hK => ?_)); simp (disch := first | omega | (simp only [dls]; omega)) only [std, reduceIte, reduceCtorEq, Int.reduceToNat, Nat.reduceAdd, Nat.reduceSub, Nat.reduceMul, Int.reduceAdd, Int.reduceSub, Int.reduceMul, Int.reduceNeg, fU, constAV_arr, cons_beq_nil, nil_beq_nil, lenAV_str, constAV_digStr, digList_len, List.take_length]; subst hK))
  refine awp_loop (fun (zz : (List UInt8)) => ⟨(aS zz :: .junk :: aS [] :: .junk :: .junk :: .junk :: .junk :: .junk :: .junk :: .junk :: .junk :: .junk :: .junk :: .junk :: .junk :: .junk :: []), []⟩) (fun (zz : (List UInt8)) => tv zz = tv s ∧ (∀ c ∈ zz, isDig c) ∧ zz.length ≤ 1000000000000) (fun (zz : (List UInt8)) => zz.length) (s) ?hI1 (Fgt.head (Nat.le_refl _) [true, false, true] ?hT1 ?hH1) ?hB1
  case hT1 => first | (simp (disch := omega) only [hds, liveT, cleanAV, cleanCell, clean1, cleanBlk, reduceIte, Int.reduceSub, Int.reduceAdd, Int.reduceNeg]; done) | rfl
  case hH1 => first | (simp (disch := omega) only [hds, liveT, cleanAV, cleanCell, clean1, cleanBlk, reduceIte, Int.reduceSub, Int.reduceAdd, Int.reduceNeg]; done) | rfl
  · exact ⟨rfl, hd, hs⟩
  rintro r ⟨htv, hdr, hl⟩
  match r, htv, hdr, hl with
  | [], htv, hdr, hl =>
    repeat (first | (with_reducible first | refine Way.imp ?_ | refine blk_o rfl ?_) | ((with_reducible refine WayR.imp (fun K hK => ?_)); simp (disch := first | omega | (simp only [dls]; omega)) only [std, reduceIte, reduceCtorEq, Int.reduceToNat, Nat.reduceAdd, Nat.reduceSub, Nat.reduceMul, Int.reduceAdd, Int.reduceSub, Int.reduceMul, Int.reduceNeg, fU, constAV_arr, cons_beq_nil, nil_beq_nil, lenAV_str, constAV_digStr, digList_len, List.take_length]; subst hK))
    refine ⟨_, rfl, ?_⟩
    rw [← htv]
    exact rfl
  | [c], htv, hdr, hl =>
    have he : dec (tv s) = [c] := by rw [← htv]; exact dec_tv (by simp) hdr (fun h => by simp at h)
    rw [he]
    repeat (first | (with_reducible first | refine Way.imp ?_ | refine blk_o rfl ?_) | ((with_reducible refine WayR.imp (fun K hK => ?_)); simp (disch := first | omega | (simp only [dls]; omega)) only [std, reduceIte, reduceCtorEq, Int.reduceToNat, Nat.reduceAdd, Nat.reduceSub, Nat.reduceMul, Int.reduceAdd, Int.reduceSub, Int.reduceMul, Int.reduceNeg, fU, constAV_arr, cons_beq_nil, nil_beq_nil, lenAV_str, constAV_digStr, digList_len, List.take_length]; subst hK))
    refine ⟨_, rfl, rfl⟩
  | c :: c2 :: t, htv, hdr, hl =>
    by_cases hc : c.toNat = 48
    · have hc' : c = 48 := UInt8.toNat_inj.1 hc
      repeat (first | (with_reducible first | refine Way.imp ?_ | refine blk_o rfl ?_) | ((with_reducible refine WayR.imp (fun K hK => ?_)); simp (disch := first | omega | (simp only [dls]; omega)) only [std, reduceIte, reduceCtorEq, Int.reduceToNat, Nat.reduceAdd, Nat.reduceSub, Nat.reduceMul, Int.reduceAdd, Int.reduceSub, Int.reduceMul, Int.reduceNeg, fU, constAV_arr, cons_beq_nil, nil_beq_nil, lenAV_str, constAV_digStr, digList_len, List.take_length, hc]; subst hK))
      refine ⟨(c2 :: t), ?hI2, ?hM2, Fgt.head (Nat.le_refl _) [true, false, true] ?hT2 ?hH2⟩
      case hT2 => first | (simp (disch := omega) only [hds, liveT, cleanAV, cleanCell, clean1, cleanBlk, reduceIte, Int.reduceSub, Int.reduceAdd, Int.reduceNeg]; done) | rfl
      case hH2 => first | (simp (disch := omega) only [hds, liveT, cleanAV, cleanCell, clean1, cleanBlk, reduceIte, Int.reduceSub, Int.reduceAdd, Int.reduceNeg]; done) | rfl
      · refine ⟨by rw [← htv, hc', tv_zero_cons], fun x hx => hdr x (by simp [hx]), by simp at hl ⊢; omega⟩
      · simp
    · have he : dec (tv s) = c :: c2 :: t := by rw [← htv]; exact dec_tv (by simp) hdr (fun h => fun h2 => hc (by simp at h2; rw [h2]; rfl))
      rw [he]
      repeat (first | (with_reducible first | refine Way.imp ?_ | refine blk_o rfl ?_) | ((with_reducible refine WayR.imp (fun K hK => ?_)); simp (disch := first | omega | (simp only [dls]; omega)) only [std, reduceIte, reduceCtorEq, Int.reduceToNat, Nat.reduceAdd, Nat.reduceSub, Nat.reduceMul, Int.reduceAdd, Int.reduceSub, Int.reduceMul, Int.reduceNeg, fU, constAV_arr, cons_beq_nil, nil_beq_nil, lenAV_str, constAV_digStr, digList_len, List.take_length]; subst hK))
      refine ⟨_, rfl, rfl⟩

abbrev c112 : CC := (.seq (.reg [⟨(some 4), none, (.mv (.const (.int .i64 (0))))⟩]) (.seq (.seq (.reg [⟨(some 5), none, (.mv (.tmp 1))⟩, ⟨(some 6), none, (.mv (.tmp 0))⟩, ⟨(some 7), none, (.len true (.tmp 6))⟩, ⟨(some 8), none, (.bin .lss (.tmp 5) (.tmp 7))⟩]) (.cond (.tmp 8) (.seq (.reg [⟨(some 9), none, (.mv (.tmp 0))⟩, ⟨(some 10), none, (.mv (.tmp 0))⟩, ⟨(some 11), none, (.len true (.tmp 10))⟩, ⟨(some 12), none, (.bin .sub (.tmp 11) (.const (.int .i64 (1))))⟩, ⟨(some 13), none, (.mv (.tmp 1))⟩, ⟨(some 14), none, (.bin .sub (.tmp 12) (.tmp 13))⟩, ⟨(some 15), none, (.sidx (.tmp 9) (.tmp 14))⟩, ⟨(some 16), none, (.bin .sub (.tmp 15) (.const (.int .u8 (48))))⟩, ⟨(some 17), none, (.conv .i64 (.tmp 16))⟩, ⟨(some 4), none, (.mv (.tmp 17))⟩]) .ret) .skip)) (.seq (.reg [⟨(some 4), none, (.mv (.const (.int .i64 (0))))⟩]) .ret)))
theorem cc112 : ccode Tryd.prog [] (Tryd.f112.body.getD .skip) = some c112 := by kernel_rfl
theorem body112 : Tryd.f112.body = some (Tryd.f112.body.getD .skip) := rfl

theorem rat_C (s : List UInt8) (k : Nat) (hd : ∀ c ∈ s, isDig c) (hs : s.length ≤ 1000000000000) (hk : k ≤ 1000000000000) : PureC Tryd.prog 112 [aS s, aI k] (.ret (aI (tdg s k))) := by
  unfold tdg
  by_cases h : k < s.length
  · have hdig := hd _ (List.getElem_mem (show s.length - 1 - k < s.length by omega))
    unfold isDig at hdig
    have hi : ((s.length : Int) - 1 - k).toNat = s.length - 1 - k := by omega
    rw [dif_pos h]
    refine pureC_of (rs := [(RV.tmp 4)]) Tryd.func112 (fun a w => Tryd.call112 a w) body112 cc112 (by kernel_rfl) ?_
    rw [Tryd.ntmps112]
    simp only [frs, Nat.reduceAdd, Nat.reduceSub]
    repeat (first | (with_reducible first | refine Way.imp ?_ | refine blk_o rfl ?_) | ((with_reducible refine WayR.imp (fun K hK => ?_)); simp (disch := first | omega | (simp only [dls]; omega)) only [std, reduceIte, reduceCtorEq, Int.reduceToNat, Nat.reduceAdd, Nat.reduceSub, Nat.reduceMul, Int.reduceAdd, Int.reduceSub, Int.reduceMul, Int.reduceNeg, fU, constAV_arr, cons_beq_nil, nil_beq_nil, lenAV_str, constAV_digStr, digList_len, List.take_length, hi, getE]; subst hK))
    refine ⟨_, rfl, ?_⟩
    rw [Int.natCast_sub (by omega)]
    exact rfl
  · rw [dif_neg h]
    refine pureC_of (rs := [(RV.tmp 4)]) Tryd.func112 (fun a w => Tryd.call112 a w) body112 cc112 (by kernel_rfl) ?_
    rw [Tryd.ntmps112]
    simp only [frs, Nat.reduceAdd, Nat.reduceSub]
    repeat (first | (with_reducible first | refine Way.imp ?_ | refine blk_o rfl ?_) | ((with_reducible refine WayR.imp (fun K hK => ?_)); simp (disch := first | omega | (simp only [dls]; omega)) only [std, reduceIte, reduceCtorEq, Int.reduceToNat, Nat.reduceAdd, Nat.reduceSub, Nat.reduceMul, Int.reduceAdd, Int.reduceSub, Int.reduceMul, Int.reduceNeg, fU, constAV_arr, cons_beq_nil, nil_beq_nil, lenAV_str, constAV_digStr, digList_len, List.take_length]; subst hK))
    exact ⟨_, rfl, rfl⟩

abbrev c105 : CC := (.seq (.reg [⟨(some 2), none, (.mv (.const (.string ⟨#[]⟩)))⟩]) (.seq (.reg [⟨(some 3), none, (.mv (.tmp 0))⟩, ⟨(some 4), none, (.mv (.tmp 0))⟩, ⟨(some 5), none, (.bin .add (.tmp 4) (.const (.int .i64 (1))))⟩, ⟨(some 6), none, (.sslice (.const digStr) (some (.tmp 3)) (some (.tmp 5)))⟩, ⟨(some 2), none, (.mv (.tmp 6))⟩]) .ret))
theorem cc105 : ccode Tryd.prog [] (Tryd.f105.body.getD .skip) = some c105 := by kernel_rfl
theorem body105 : Tryd.f105.body = some (Tryd.f105.body.getD .skip) := rfl

theorem sign_C (d : Nat) (h : d < 10) : PureC Tryd.prog 105 [aI d] (.ret (aS [chr d])) := by
  have h1 : ((d : Int) + 1).toNat = d + 1 := by omega
  have h2 := digList_at h
  refine pureC_of (rs := [(RV.tmp 2)]) Tryd.func105 (fun a w => Tryd.call105 a w) body105 cc105 (by kernel_rfl) ?_
  rw [Tryd.ntmps105]
  simp only [frs, Nat.reduceAdd, Nat.reduceSub]
  repeat (first | (with_reducible first | refine Way.imp ?_ | refine blk_o rfl ?_) | ((with_reducible refine WayR.imp (fun K hK => ?_)); simp (disch := first | omega | (simp only [dls]; omega)) only [std, reduceIte, reduceCtorEq, Int.reduceToNat, Nat.reduceAdd, Nat.reduceSub, Nat.reduceMul, Int.reduceAdd, Int.reduceSub, Int.reduceMul, Int.reduceNeg, fU, constAV_arr, cons_beq_nil, nil_beq_nil, lenAV_str, constAV_digStr, digList_len, List.take_length, h1, h2]; subst hK))
  exact ⟨_, rfl, rfl⟩

abbrev c106_k1 : CC := (.seq (.reg [⟨(some 37), none, (.mv (.tmp 5))⟩, ⟨(some 38), none, (.callf (.func 107) [(.tmp 37)])⟩, ⟨(some 4), none, (.mv (.tmp 38))⟩]) .ret)
abbrev c106_b1 : CC := (.seq (.seq (.reg [⟨(some 9), none, (.mv (.tmp 7))⟩, ⟨(some 10), none, (.mv (.tmp 0))⟩, ⟨(some 11), none, (.len true (.tmp 10))⟩, ⟨(some 12), none, (.bin .leq (.tmp 9) (.tmp 11))⟩, ⟨(some 13), none, (.mv (.tmp 12))⟩, ⟨(some 14), (some (13, false)), (.mv (.tmp 7))⟩, ⟨(some 15), (some (13, false)), (.mv (.tmp 1))⟩, ⟨(some 16), (some (13, false)), (.len true (.tmp 15))⟩, ⟨(some 17), (some (13, false)), (.bin .leq (.tmp 14) (.tmp 16))⟩, ⟨(some 18), none, (.pick (.tmp 13) (.const (.bool true)) (.tmp 17))⟩]) (.cond (.tmp 18) .skip (.exit 0))) (.seq (.block 1 (.seq (.reg [⟨(some 21), none, (.mv (.tmp 0))⟩, ⟨(some 22), none, (.mv (.tmp 7))⟩, ⟨(some 23), none, (.callf (.func 112) [(.tmp 21), (.tmp 22)])⟩, ⟨(some 24), none, (.mv (.tmp 1))⟩, ⟨(some 25), none, (.mv (.tmp 7))⟩, ⟨(some 26), none, (.callf (.func 112) [(.tmp 24), (.tmp 25)])⟩, ⟨(some 27), none, (.bin .add (.tmp 23) (.tmp 26))⟩, ⟨(some 28), none, (.mv (.tmp 6))⟩, ⟨(some 29), none, (.bin .add (.tmp 27) (.tmp 28))⟩, ⟨(some 8), none, (.mv (.tmp 29))⟩]) (.seq (.reg [⟨(some 30), none, (.mv (.tmp 8))⟩, ⟨(some 31), none, (.bin .rem (.tmp 30) (.const (.int .i64 (10))))⟩, ⟨(some 32), none, (.callf (.func 105) [(.tmp 31)])⟩, ⟨(some 33), none, (.mv (.tmp 5))⟩, ⟨(some 34), none, (.bin .add (.tmp 32) (.tmp 33))⟩, ⟨(some 5), none, (.mv (.tmp 34))⟩]) (.reg [⟨(some 35), none, (.mv (.tmp 8))⟩, ⟨(some 36), none, (.bin .quo (.tmp 35) (.const (.int .i64 (10))))⟩, ⟨(some 6), none, (.mv (.tmp 36))⟩])))) (.reg [⟨(some 19), none, (.mv (.tmp 7))⟩, ⟨(some 20), none, (.bin .add (.tmp 19) (.const (.int .i64 (1))))⟩, ⟨(some 7), none, (.mv (.tmp 20))⟩])))
abbrev c106 : CC := (.seq (.reg [⟨(some 4), none, (.mv (.const (.string ⟨#[]⟩)))⟩]) (.seq (.reg [⟨(some 5), none, (.mv (.const (.string ⟨#[]⟩)))⟩]) (.seq (.reg [⟨(some 6), none, (.mv (.const (.int .i64 (0))))⟩]) (.seq (.seq (.reg [⟨(some 7), none, (.mv (.const (.int .i64 (0))))⟩]) (.block 0 (.loop c106_b1))) c106_k1))))
theorem cc106 : ccode Tryd.prog [] (Tryd.f106.body.getD .skip) = some c106 := by kernel_rfl
theorem body106 : Tryd.f106.body = some (Tryd.f106.body.getD .skip) := rfl

theorem tadd_C (s t : List UInt8) (hs : ∀ c ∈ s, isDig c) (ht : ∀ c ∈ t, isDig c) (ls : s.length ≤ 100000000000) (lt : t.length ≤ 100000000000) : PureC Tryd.prog 106 [aS s, aS t] (.ret (aS (dec (tv s + tv t)))) := by
  refine pureC_of (rs := [(RV.tmp 4)]) Tryd.func106 (fun a w => Tryd.call106 a w) body106 cc106 (by kernel_rfl) ?_
  rw [Tryd.ntmps106]
  simp only [frs, Nat.reduceAdd, Nat.reduceSub]
  repeat (first | (with_reducible first | refine Way.imp ?_ | refine blk_o rfl ?_) | ((with_reducible refine WayR.imp (fun K hK => ?_)); simp (disch := first | omega | (simp only [dls]; omega)) only [std, reduceIte, reduceCtorEq, Int.reduceToNat, Nat.reduceAdd, Nat.reduceSub, Nat.reduceMul, Int.reduceAdd, Int.reduceSub, Int.reduceMul, Int.reduceNeg, fU, constAV_arr, cons_beq_nil, nil_beq_nil, lenAV_str, constAV_digStr, digList_len, List.take_length]; subst hK))
  refine awp_loop (fun (zz : Nat × (List UInt8) × Nat) => ⟨(aS s :: aS t :: .junk :: .junk :: aS [] :: aS zz.2.1 :: aI zz.2.2 :: aI zz.1 :: .junk :: .junk :: .junk :: .junk :: .junk :: .junk :: .junk :: .junk :: .junk :: .junk :: .junk :: .junk :: .junk :: .junk :: .junk :: .junk :: .junk :: .junk :: .junk :: .junk :: .junk :: .junk :: .junk :: .junk :: .junk :: .junk :: .junk :: .junk :: .junk :: .junk :: .junk :: []), []⟩) (fun (zz : Nat × (List UInt8) × Nat) => zz.1 ≤ max s.length t.length + 1 ∧ zz.2.1.length = zz.1 ∧ zz.2.2 ≤ 1 ∧ (∀ x ∈ zz.2.1, isDig x) ∧ tv zz.2.1 + 10 ^ zz.1 * zz.2.2 = tlow s zz.1 + tlow t zz.1) (fun (zz : Nat × (List UInt8) × Nat) => max s.length t.length + 1 - zz.1) (0, [], 0) ?hI3 (Fgt.head (Nat.le_refl _) [true, true, false, false, true, true, true, true] ?hT3 ?hH3) ?hB3
  case hT3 => first | (simp (disch := omega) only [hds, liveT, cleanAV, cleanCell, clean1, cleanBlk, reduceIte, Int.reduceSub, Int.reduceAdd, Int.reduceNeg]; done) | rfl
  case hH3 => first | (simp (disch := omega) only [hds, liveT, cleanAV, cleanCell, clean1, cleanBlk, reduceIte, Int.reduceSub, Int.reduceAdd, Int.reduceNeg]; done) | rfl
  · dsimp only; exact ⟨by omega, rfl, by omega, by simp, by simp [tlow_zero, tv, rv]⟩
  rintro ⟨k, out, c⟩ ⟨hk, hlen, hc, hdig, hinv⟩
  dsimp only at hk hlen hc hdig hinv
  by_cases hkm : k = max s.length t.length + 1
  · have hcut := cut_C out hdig (by omega)
    have hv : tv out = tv s + tv t := by
      subst hkm
      have h1 := tlow_all s (k := max s.length t.length + 1) (by omega)
      have h2 := tlow_all t (k := max s.length t.length + 1) (by omega)
      rw [h1, h2] at hinv
      have h3 := tv_lt hs
      have h4 := tv_lt ht
      have h5 : (10 : Nat) ^ s.length ≤ 10 ^ (max s.length t.length + 1 - 1) := Nat.pow_le_pow_right (by decide) (by omega)
      have h6 : (10 : Nat) ^ t.length ≤ 10 ^ (max s.length t.length + 1 - 1) := Nat.pow_le_pow_right (by decide) (by omega)
      exact add_end' (w := 10) (by decide) (by omega) (Nat.lt_of_lt_of_le h3 h5) (Nat.lt_of_lt_of_le h4 h6) hinv
    rw [hv] at hcut
    repeat (first | (with_reducible first | refine Way.imp ?_ | refine blk_o rfl ?_) | ((with_reducible refine WayR.imp (fun K hK => ?_)); simp (disch := first | omega | (simp only [dls]; omega)) only [std, reduceIte, reduceCtorEq, Int.reduceToNat, Nat.reduceAdd, Nat.reduceSub, Nat.reduceMul, Int.reduceAdd, Int.reduceSub, Int.reduceMul, Int.reduceNeg, fU, constAV_arr, cons_beq_nil, nil_beq_nil, lenAV_str, constAV_digStr, digList_len, List.take_length]; subst hK) | refine zcA (hcut) rfl rfl rfl ?_)
    exact ⟨_, rfl, rfl⟩
  · have d1 := tdg_lt hs k
    have d2 := tdg_lt ht k
    have a1 := rat_C s k hs (by omega) (by omega)
    have a2 := rat_C t k ht (by omega) (by omega)
    have hdm : (tdg s k + tdg t k + c) % 10 < 10 := Nat.mod_lt _ (by decide)
    have hsg := sign_C _ hdm
    have hr : ((tdg s k : Int) + tdg t k + c).tmod 10 = (((tdg s k + tdg t k + c) % 10 : Nat) : Int) := by rw [tmod_nn (by omega)]; simp
    have hq : ((tdg s k : Int) + tdg t k + c).tdiv 10 = (((tdg s k + tdg t k + c) / 10 : Nat) : Int) := by rw [tdiv_nn (by omega)]; simp
    have hn : out.length + 1 ≤ 1000000000000 := by omega
    by_cases hks : k ≤ s.length
    · repeat (first | (with_reducible first | refine Way.imp ?_ | refine blk_o rfl ?_) | ((with_reducible refine WayR.imp (fun K hK => ?_)); simp (disch := first | omega | (simp only [dls]; omega)) only [std, reduceIte, reduceCtorEq, Int.reduceToNat, Nat.reduceAdd, Nat.reduceSub, Nat.reduceMul, Int.reduceAdd, Int.reduceSub, Int.reduceMul, Int.reduceNeg, fU, constAV_arr, cons_beq_nil, nil_beq_nil, lenAV_str, constAV_digStr, digList_len, List.take_length, hr, hq]; subst hK) | refine zcA (a1) rfl rfl rfl ?_ | refine zcA (a2) rfl rfl rfl ?_ | refine zcA (hsg) rfl rfl rfl ?_)
      refine ⟨(k + 1, chr ((tdg s k + tdg t k + c) % 10) :: out, (tdg s k + tdg t k + c) / 10), ?hI4, ?hM4, Fgt.head (Nat.le_refl _) [true, true, false, false, true, true, true, true] ?hT4 ?hH4⟩
      case hT4 => first | (simp (disch := omega) only [hds, liveT, cleanAV, cleanCell, clean1, cleanBlk, reduceIte, Int.reduceSub, Int.reduceAdd, Int.reduceNeg]; done) | rfl
      case hH4 => first | (simp (disch := omega) only [hds, liveT, cleanAV, cleanCell, clean1, cleanBlk, reduceIte, Int.reduceSub, Int.reduceAdd, Int.reduceNeg]; done) | rfl
      · dsimp only
        refine ⟨by omega, by simp [hlen], by omega, ?_, ?_⟩
        · intro x hx
          rcases List.mem_cons.1 hx with rfl | hx
          · exact chr_dig hdm
          · exact hdig x hx
        · rw [tv_cons, chr_val hdm, hlen, tlow_succ, tlow_succ]
          exact add_step10 _ _ hinv
      · dsimp only; omega
    · repeat (first | (with_reducible first | refine Way.imp ?_ | refine blk_o rfl ?_) | ((with_reducible refine WayR.imp (fun K hK => ?_)); simp (disch := first | omega | (simp only [dls]; omega)) only [std, reduceIte, reduceCtorEq, Int.reduceToNat, Nat.reduceAdd, Nat.reduceSub, Nat.reduceMul, Int.reduceAdd, Int.reduceSub, Int.reduceMul, Int.reduceNeg, fU, constAV_arr, cons_beq_nil, nil_beq_nil, lenAV_str, constAV_digStr, digList_len, List.take_length, hr, hq]; subst hK) | refine zcA (a1) rfl rfl rfl ?_ | refine zcA (a2) rfl rfl rfl ?_ | refine zcA (hsg) rfl rfl rfl ?_)
      refine ⟨(k + 1, chr ((tdg s k + tdg t k + c) % 10) :: out, (tdg s k + tdg t k + c) / 10), ?hI5, ?hM5, Fgt.head (Nat.le_refl _) [true, true, false, false, true, true, true, true] ?hT5 ?hH5⟩
      case hT5 => first | (simp (disch := omega) only [hds, liveT, cleanAV, cleanCell, clean1, cleanBlk, reduceIte, Int.reduceSub, Int.reduceAdd, Int.reduceNeg]; done) | rfl
      case hH5 => first | (simp (disch := omega) only [hds, liveT, cleanAV, cleanCell, clean1, cleanBlk, reduceIte, Int.reduceSub, Int.reduceAdd, Int.reduceNeg]; done) | rfl
      · dsimp only
        refine ⟨by omega, by simp [hlen], by omega, ?_, ?_⟩
        · intro x hx
          rcases List.mem_cons.1 hx with rfl | hx
          · exact chr_dig hdm
          · exact hdig x hx
        · rw [tv_cons, chr_val hdm, hlen, tlow_succ, tlow_succ]
          exact add_step10 _ _ hinv
      · dsimp only; omega


abbrev c111_k1 : CC := (.seq (.reg [⟨(some 33), none, (.mv (.tmp 5))⟩, ⟨(some 34), none, (.callf (.func 107) [(.tmp 33)])⟩, ⟨(some 4), none, (.mv (.tmp 34))⟩]) .ret)
abbrev c111_b1 : CC := (.seq (.seq (.reg [⟨(some 9), none, (.mv (.tmp 7))⟩, ⟨(some 10), none, (.mv (.tmp 0))⟩, ⟨(some 11), none, (.len true (.tmp 10))⟩, ⟨(some 12), none, (.bin .lss (.tmp 9) (.tmp 11))⟩]) (.cond (.tmp 12) .skip (.exit 0))) (.seq (.block 1 (.seq (.reg [⟨(some 15), none, (.mv (.tmp 0))⟩, ⟨(some 16), none, (.mv (.tmp 7))⟩, ⟨(some 17), none, (.callf (.func 112) [(.tmp 15), (.tmp 16)])⟩, ⟨(some 18), none, (.mv (.tmp 1))⟩, ⟨(some 19), none, (.mv (.tmp 7))⟩, ⟨(some 20), none, (.callf (.func 112) [(.tmp 18), (.tmp 19)])⟩, ⟨(some 21), none, (.bin .sub (.tmp 17) (.tmp 20))⟩, ⟨(some 22), none, (.mv (.tmp 6))⟩, ⟨(some 23), none, (.bin .sub (.tmp 21) (.tmp 22))⟩, ⟨(some 24), none, (.bin .add (.tmp 23) (.const (.int .i64 (10))))⟩, ⟨(some 8), none, (.mv (.tmp 24))⟩]) (.seq (.reg [⟨(some 25), none, (.mv (.tmp 8))⟩, ⟨(some 26), none, (.bin .rem (.tmp 25) (.const (.int .i64 (10))))⟩, ⟨(some 27), none, (.callf (.func 105) [(.tmp 26)])⟩, ⟨(some 28), none, (.mv (.tmp 5))⟩, ⟨(some 29), none, (.bin .add (.tmp 27) (.tmp 28))⟩, ⟨(some 5), none, (.mv (.tmp 29))⟩]) (.reg [⟨(some 30), none, (.mv (.tmp 8))⟩, ⟨(some 31), none, (.bin .quo (.tmp 30) (.const (.int .i64 (10))))⟩, ⟨(some 32), none, (.bin .sub (.const (.int .i64 (1))) (.tmp 31))⟩, ⟨(some 6), none, (.mv (.tmp 32))⟩])))) (.reg [⟨(some 13), none, (.mv (.tmp 7))⟩, ⟨(some 14), none, (.bin .add (.tmp 13) (.const (.int .i64 (1))))⟩, ⟨(some 7), none, (.mv (.tmp 14))⟩])))
abbrev c111 : CC := (.seq (.reg [⟨(some 4), none, (.mv (.const (.string ⟨#[]⟩)))⟩]) (.seq (.reg [⟨(some 5), none, (.mv (.const (.string ⟨#[]⟩)))⟩]) (.seq (.reg [⟨(some 6), none, (.mv (.const (.int .i64 (0))))⟩]) (.seq (.seq (.reg [⟨(some 7), none, (.mv (.const (.int .i64 (0))))⟩]) (.block 0 (.loop c111_b1))) c111_k1))))
theorem cc111 : ccode Tryd.prog [] (Tryd.f111.body.getD .skip) = some c111 := by kernel_rfl
theorem body111 : Tryd.f111.body = some (Tryd.f111.body.getD .skip) := rfl

theorem tsub_C (s t : List UInt8) (hs : ∀ c ∈ s, isDig c) (ht : ∀ c ∈ t, isDig c) (ls : s.length ≤ 100000000000) (lt : t.length ≤ 100000000000) (hle : tv t ≤ tv s) : PureC Tryd.prog 111 [aS s, aS t] (.ret (aS (dec (tv s - tv t)))) := by
  refine pureC_of (rs := [(RV.tmp 4)]) Tryd.func111 (fun a w => Tryd.call111 a w) body111 cc111 (by kernel_rfl) ?_
  rw [Tryd.ntmps111]
  simp only [frs, Nat.reduceAdd, Nat.reduceSub]
  repeat (first | (with_reducible first | refine Way.imp ?_ | refine blk_o rfl ?_) | ((with_reducible refine WayR.imp (fun K hK => ?_)); simp (disch := first | omega | (simp only [dls]; omega)) only [std, reduceIte, reduceCtorEq, Int.reduceToNat, Nat.reduceAdd, Nat.reduceSub, Nat.reduceMul, Int.reduceAdd, Int.reduceSub, Int.reduceMul, Int.reduceNeg, fU, constAV_arr, cons_beq_nil, nil_beq_nil, lenAV_str, constAV_digStr, digList_len, List.take_length]; subst hK))
  refine awp_loop (fun (zz : Nat × (List UInt8) × Nat) => ⟨(aS s :: aS t :: .junk :: .junk :: aS [] :: aS zz.2.1 :: aI zz.2.2 :: aI zz.1 :: .junk :: .junk :: .junk :: .junk :: .junk :: .junk :: .junk :: .junk :: .junk :: .junk :: .junk :: .junk :: .junk :: .junk :: .junk :: .junk :: .junk :: .junk :: .junk :: .junk :: .junk :: .junk :: .junk :: .junk :: .junk :: .junk :: .junk :: []), []⟩) (fun (zz : Nat × (List UInt8) × Nat) => zz.1 ≤ s.length ∧ zz.2.1.length = zz.1 ∧ zz.2.2 ≤ 1 ∧ (∀ x ∈ zz.2.1, isDig x) ∧ tlow s zz.1 + 10 ^ zz.1 * zz.2.2 = tv zz.2.1 + tlow t zz.1) (fun (zz : Nat × (List UInt8) × Nat) => s.length - zz.1) (0, [], 0) ?hI6 (Fgt.head (Nat.le_refl _) [true, true, false, false, true, true, true, true] ?hT6 ?hH6) ?hB6
  case hT6 => first | (simp (disch := omega) only [hds, liveT, cleanAV, cleanCell, clean1, cleanBlk, reduceIte, Int.reduceSub, Int.reduceAdd, Int.reduceNeg]; done) | rfl
  case hH6 => first | (simp (disch := omega) only [hds, liveT, cleanAV, cleanCell, clean1, cleanBlk, reduceIte, Int.reduceSub, Int.reduceAdd, Int.reduceNeg]; done) | rfl
  · dsimp only; exact ⟨by omega, rfl, by omega, by simp, by simp [tlow_zero, tv, rv]⟩
  rintro ⟨k, out, c⟩ ⟨hk, hlen, hc, hdig, hinv⟩
  dsimp only at hk hlen hc hdig hinv
  by_cases hkm : k = s.length
  · have hcut := cut_C out hdig (by omega)
    have hv : tv out = tv s - tv t := by
      subst hkm
      have h1 := tlow_all s (Nat.le_refl _)
      have h3 := tv_lt hs
      have h4 := tv_lt hdig
      rw [hlen] at h4
      have h2 : tlow t s.length = tv t := by
        by_cases hl : t.length ≤ s.length
        · exact tlow_all t hl
        · unfold tlow tv
          have e : t.reverse = t.reverse.take s.length ++ t.reverse.drop s.length := (List.take_append_drop _ _).symm
          have hz : rv (t.reverse.drop s.length) = 0 := by
            refine Decidable.byContradiction fun hne => ?_
            have e2 : tv t = rv (t.reverse.take s.length) + 10 ^ s.length * rv (t.reverse.drop s.length) := by
              unfold tv
              conv => lhs; rw [e]
              rw [rv_append, List.length_take, List.length_reverse, Nat.min_eq_left (by omega)]
            have : 10 ^ s.length * 1 ≤ 10 ^ s.length * rv (t.reverse.drop s.length) := Nat.mul_le_mul_left _ (by omega)
            omega
          conv => rhs; rw [e]
          rw [rv_append, hz]; simp
      rw [h1, h2] at hinv
      exact sub_end (w := 10) h4 hle hc hinv
    rw [hv] at hcut
    repeat (first | (with_reducible first | refine Way.imp ?_ | refine blk_o rfl ?_) | ((with_reducible refine WayR.imp (fun K hK => ?_)); simp (disch := first | omega | (simp only [dls]; omega)) only [std, reduceIte, reduceCtorEq, Int.reduceToNat, Nat.reduceAdd, Nat.reduceSub, Nat.reduceMul, Int.reduceAdd, Int.reduceSub, Int.reduceMul, Int.reduceNeg, fU, constAV_arr, cons_beq_nil, nil_beq_nil, lenAV_str, constAV_digStr, digList_len, List.take_length]; subst hK) | refine zcA (hcut) rfl rfl rfl ?_)
    exact ⟨_, rfl, rfl⟩
  · have d1 := tdg_lt hs k
    have d2 := tdg_lt ht k
    have a1 := rat_C s k hs (by omega) (by omega)
    have a2 := rat_C t k ht (by omega) (by omega)
    have hdm : (tdg s k + 10 - tdg t k - c) % 10 < 10 := Nat.mod_lt _ (by decide)
    have hsg := sign_C _ hdm
    have hz : (tdg s k : Int) - tdg t k - c + 10 = ((tdg s k + 10 - tdg t k - c : Nat) : Int) := by omega
    have hr : ((tdg s k + 10 - tdg t k - c : Nat) : Int).tmod 10 = (((tdg s k + 10 - tdg t k - c) % 10 : Nat) : Int) := by rw [tmod_nn (by omega)]; simp
    have hq : ((tdg s k + 10 - tdg t k - c : Nat) : Int).tdiv 10 = (((tdg s k + 10 - tdg t k - c) / 10 : Nat) : Int) := by rw [tdiv_nn (by omega)]; simp
    have hq1 : (1 : Int) - (((tdg s k + 10 - tdg t k - c) / 10 : Nat) : Int) = ((1 - (tdg s k + 10 - tdg t k - c) / 10 : Nat) : Int) := by omega
    have hst := sub_step10 (k := k) (tdg s k) (tdg t k) d2 hc hinv
    have hb : (tdg s k + 10 - tdg t k - c) ≤ 100 := by omega
    have hn : out.length + 1 ≤ 1000000000000 := by omega
    generalize tdg s k + 10 - tdg t k - c = m at *
    repeat (first | (with_reducible first | refine Way.imp ?_ | refine blk_o rfl ?_) | ((with_reducible refine WayR.imp (fun K hK => ?_)); simp (disch := first | omega | (simp only [dls]; omega)) only [std, reduceIte, reduceCtorEq, Int.reduceToNat, Nat.reduceAdd, Nat.reduceSub, Nat.reduceMul, Int.reduceAdd, Int.reduceSub, Int.reduceMul, Int.reduceNeg, fU, constAV_arr, cons_beq_nil, nil_beq_nil, lenAV_str, constAV_digStr, digList_len, List.take_length, hz, hr, hq, hq1]; subst hK) | refine zcA (a1) rfl rfl rfl ?_ | refine zcA (a2) rfl rfl rfl ?_ | refine zcA (hsg) rfl rfl rfl ?_)
    refine ⟨(k + 1, chr (m % 10) :: out, 1 - m / 10), ?hI7, ?hM7, Fgt.head (Nat.le_refl _) [true, true, false, false, true, true, true, true] ?hT7 ?hH7⟩
    case hT7 => first | (simp (disch := omega) only [hds, liveT, cleanAV, cleanCell, clean1, cleanBlk, reduceIte, Int.reduceSub, Int.reduceAdd, Int.reduceNeg, hq1]; done) | rfl
    case hH7 => first | (simp (disch := omega) only [hds, liveT, cleanAV, cleanCell, clean1, cleanBlk, reduceIte, Int.reduceSub, Int.reduceAdd, Int.reduceNeg, hq1]; done) | rfl
    · dsimp only
      refine ⟨by omega, by simp [hlen], by omega, ?_, ?_⟩
      · intro x hx
        rcases List.mem_cons.1 hx with rfl | hx
        · exact chr_dig hdm
        · exact hdig x hx
      · rw [tv_cons, chr_val hdm, hlen, tlow_succ, tlow_succ]
        rcases hst with h | h
        · exact h
        · omega
    · dsimp only; omega

theorem bytesLess_lex : ∀ (s t : List UInt8), Op.bytesLess s t = lexLess s t
  | s, [] => by cases s <;> rfl
  | [], b :: y => rfl
  | a :: x, b :: y => by simp only [Op.bytesLess, lexLess, bytesLess_lex x y]

abbrev c110 : CC := (.seq (.reg [⟨(some 4), none, (.mv (.const (.bool false)))⟩]) (.seq (.seq (.reg [⟨(some 5), none, (.mv (.tmp 0))⟩, ⟨(some 6), none, (.len true (.tmp 5))⟩, ⟨(some 7), none, (.mv (.tmp 1))⟩, ⟨(some 8), none, (.len true (.tmp 7))⟩, ⟨(some 9), none, (.bin .neq (.tmp 6) (.tmp 8))⟩]) (.cond (.tmp 9) (.seq (.reg [⟨(some 10), none, (.mv (.tmp 0))⟩, ⟨(some 11), none, (.len true (.tmp 10))⟩, ⟨(some 12), none, (.mv (.tmp 1))⟩, ⟨(some 13), none, (.len true (.tmp 12))⟩, ⟨(some 14), none, (.bin .lss (.tmp 11) (.tmp 13))⟩, ⟨(some 4), none, (.mv (.tmp 14))⟩]) .ret) .skip)) (.seq (.reg [⟨(some 15), none, (.mv (.tmp 0))⟩, ⟨(some 16), none, (.mv (.tmp 1))⟩, ⟨(some 17), none, (.bin .lss (.tmp 15) (.tmp 16))⟩, ⟨(some 4), none, (.mv (.tmp 17))⟩]) .ret)))
theorem cc110 : ccode Tryd.prog [] (Tryd.f110.body.getD .skip) = some c110 := by kernel_rfl
theorem body110 : Tryd.f110.body = some (Tryd.f110.body.getD .skip) := rfl

theorem tless_C (a b : Nat) : PureC Tryd.prog 110 [aS (dec a), aS (dec b)] (.ret (aB (decide (a < b)))) := by
  have h := dec_less a b
  by_cases hl : (dec a).length = (dec b).length
  · rw [if_pos hl] at h
    rw [← h]
    refine pureC_of (rs := [(RV.tmp 4)]) Tryd.func110 (fun a w => Tryd.call110 a w) body110 cc110 (by kernel_rfl) ?_
    rw [Tryd.ntmps110]
    simp only [frs, Nat.reduceAdd, Nat.reduceSub]
    repeat (first | (with_reducible first | refine Way.imp ?_ | refine blk_o rfl ?_) | ((with_reducible refine WayR.imp (fun K hK => ?_)); simp (disch := first | omega | (simp only [dls]; omega)) only [std, reduceIte, reduceCtorEq, Int.reduceToNat, Nat.reduceAdd, Nat.reduceSub, Nat.reduceMul, Int.reduceAdd, Int.reduceSub, Int.reduceMul, Int.reduceNeg, fU, constAV_arr, cons_beq_nil, nil_beq_nil, lenAV_str, constAV_digStr, digList_len, List.take_length, bytesLess_lex]; subst hK))
    exact ⟨_, rfl, rfl⟩
  · rw [if_neg hl] at h
    rw [← h]
    generalize dec a = s at *
    generalize dec b = t at *
    by_cases hlt : s.length < t.length
    · rw [show decide (s.length < t.length) = true from by simp [hlt]]
      refine pureC_of (rs := [(RV.tmp 4)]) Tryd.func110 (fun a w => Tryd.call110 a w) body110 cc110 (by kernel_rfl) ?_
      rw [Tryd.ntmps110]
      simp only [frs, Nat.reduceAdd, Nat.reduceSub]
      repeat (first | (with_reducible first | refine Way.imp ?_ | refine blk_o rfl ?_) | ((with_reducible refine WayR.imp (fun K hK => ?_)); simp (disch := first | omega | (simp only [dls]; omega)) only [std, reduceIte, reduceCtorEq, Int.reduceToNat, Nat.reduceAdd, Nat.reduceSub, Nat.reduceMul, Int.reduceAdd, Int.reduceSub, Int.reduceMul, Int.reduceNeg, fU, constAV_arr, cons_beq_nil, nil_beq_nil, lenAV_str, constAV_digStr, digList_len, List.take_length]; subst hK))
      exact ⟨_, rfl, rfl⟩
    · rw [show decide (s.length < t.length) = false from by simp [hlt]]
      refine pureC_of (rs := [(RV.tmp 4)]) Tryd.func110 (fun a w => Tryd.call110 a w) body110 cc110 (by kernel_rfl) ?_
      rw [Tryd.ntmps110]
      simp only [frs, Nat.reduceAdd, Nat.reduceSub]
      repeat (first | (with_reducible first | refine Way.imp ?_ | refine blk_o rfl ?_) | ((with_reducible refine WayR.imp (fun K hK => ?_)); simp (disch := first | omega | (simp only [dls]; omega)) only [std, reduceIte, reduceCtorEq, Int.reduceToNat, Nat.reduceAdd, Nat.reduceSub, Nat.reduceMul, Int.reduceAdd, Int.reduceSub, Int.reduceMul, Int.reduceNeg, fU, constAV_arr, cons_beq_nil, nil_beq_nil, lenAV_str, constAV_digStr, digList_len, List.take_length]; subst hK))
      exact ⟨_, rfl, rfl⟩

end Go.Proofs.YtdhkdnmefeeclaaDoor
set_option linter.unusedSimpArgs false
set_option linter.unusedVariables false
set_option maxRecDepth 100000
set_option maxHeartbeats 4000000
namespace Go.Proofs.YtdhkdnmefeeclaaDoor
open Go Go.Am Go.Proofs Go.Off

def fN (n : Nat) : List CV := [.val (.int .i64 (n : Int))]
theorem setN (l : List Nat) (i : Nat) (x : Nat) : (encB fN l).set i [Cell.c (.val (.int .i64 (x : Int)))] = encB fN (l.set i x) := encB_set l i x
theorem repN (n : Nat) : List.replicate n [Cell.c (.val (.int .i64 0))] = encB fN (List.replicate n 0) := by rw [encB_replicate]; rfl
theorem int_mul_le {a b : Nat} (ha : a < 10) (hb : b < 10) : a * b ≤ 81 := Nat.mul_le_mul (show a ≤ 9 by omega) (show b ≤ 9 by omega)

abbrev c82_k1 : CC := (.seq (.reg [⟨(some 69), none, (.mv (.tmp 8))⟩, ⟨(some 70), none, (.callf (.func 107) [(.tmp 69)])⟩, ⟨(some 4), none, (.mv (.tmp 70))⟩]) .ret)
abbrev c82_b1 : CC := (.seq (.seq (.reg [⟨(some 50), none, (.mv (.tmp 10))⟩, ⟨(some 51), none, (.mv (.tmp 5))⟩, ⟨(some 52), none, (.len false (.tmp 51))⟩, ⟨(some 53), none, (.bin .lss (.tmp 50) (.tmp 52))⟩]) (.cond (.tmp 53) .skip (.exit 4))) (.seq (.block 5 (.seq (.reg [⟨(some 56), none, (.mv (.tmp 5))⟩, ⟨(some 57), none, (.mv (.tmp 10))⟩, ⟨(some 58), none, (.iaddr 1 none (.tmp 56) (.tmp 57))⟩, ⟨(some 59), none, (.load 1 false (.tmp 58))⟩, ⟨(some 60), none, (.mv (.tmp 9))⟩, ⟨(some 61), none, (.bin .add (.tmp 59) (.tmp 60))⟩, ⟨(some 11), none, (.mv (.tmp 61))⟩]) (.seq (.reg [⟨(some 62), none, (.mv (.tmp 11))⟩, ⟨(some 63), none, (.bin .rem (.tmp 62) (.const (.int .i64 (10))))⟩, ⟨(some 64), none, (.callf (.func 105) [(.tmp 63)])⟩, ⟨(some 65), none, (.mv (.tmp 8))⟩, ⟨(some 66), none, (.bin .add (.tmp 64) (.tmp 65))⟩, ⟨(some 8), none, (.mv (.tmp 66))⟩]) (.reg [⟨(some 67), none, (.mv (.tmp 11))⟩, ⟨(some 68), none, (.bin .quo (.tmp 67) (.const (.int .i64 (10))))⟩, ⟨(some 9), none, (.mv (.tmp 68))⟩])))) (.reg [⟨(some 54), none, (.mv (.tmp 10))⟩, ⟨(some 55), none, (.bin .add (.tmp 54) (.const (.int .i64 (1))))⟩, ⟨(some 10), none, (.mv (.tmp 55))⟩])))
abbrev c82_k2 : CC := (.seq (.reg [⟨(some 8), none, (.mv (.const (.string ⟨#[]⟩)))⟩]) (.seq (.reg [⟨(some 9), none, (.mv (.const (.int .i64 (0))))⟩]) (.seq (.seq (.reg [⟨(some 10), none, (.mv (.const (.int .i64 (0))))⟩]) (.block 4 (.loop c82_b1))) c82_k1)))
abbrev c82_k3 : CC := (.reg [⟨(some 23), none, (.mv (.tmp 6))⟩, ⟨(some 24), none, (.bin .add (.tmp 23) (.const (.int .i64 (1))))⟩, ⟨(some 6), none, (.mv (.tmp 24))⟩])
abbrev c82_b2 : CC := (.seq (.seq (.reg [⟨(some 25), none, (.mv (.tmp 7))⟩, ⟨(some 26), none, (.mv (.tmp 1))⟩, ⟨(some 27), none, (.len true (.tmp 26))⟩, ⟨(some 28), none, (.bin .lss (.tmp 25) (.tmp 27))⟩]) (.cond (.tmp 28) .skip (.exit 2))) (.seq (.block 3 (.reg [⟨(some 31), none, (.mv (.tmp 5))⟩, ⟨(some 32), none, (.mv (.tmp 6))⟩, ⟨(some 33), none, (.mv (.tmp 7))⟩, ⟨(some 34), none, (.bin .add (.tmp 32) (.tmp 33))⟩, ⟨(some 35), none, (.mv (.tmp 5))⟩, ⟨(some 36), none, (.mv (.tmp 6))⟩, ⟨(some 37), none, (.mv (.tmp 7))⟩, ⟨(some 38), none, (.bin .add (.tmp 36) (.tmp 37))⟩, ⟨(some 39), none, (.iaddr 1 none (.tmp 35) (.tmp 38))⟩, ⟨(some 40), none, (.load 1 false (.tmp 39))⟩, ⟨(some 41), none, (.mv (.tmp 0))⟩, ⟨(some 42), none, (.mv (.tmp 6))⟩, ⟨(some 43), none, (.callf (.func 112) [(.tmp 41), (.tmp 42)])⟩, ⟨(some 44), none, (.mv (.tmp 1))⟩, ⟨(some 45), none, (.mv (.tmp 7))⟩, ⟨(some 46), none, (.callf (.func 112) [(.tmp 44), (.tmp 45)])⟩, ⟨(some 47), none, (.bin .mul (.tmp 43) (.tmp 46))⟩, ⟨(some 48), none, (.bin .add (.tmp 40) (.tmp 47))⟩, ⟨(some 49), none, (.iaddr 1 none (.tmp 31) (.tmp 34))⟩, ⟨none, none, (.store 1 (.tmp 49) (.tmp 48))⟩])) (.reg [⟨(some 29), none, (.mv (.tmp 7))⟩, ⟨(some 30), none, (.bin .add (.tmp 29) (.const (.int .i64 (1))))⟩, ⟨(some 7), none, (.mv (.tmp 30))⟩])))
abbrev c82_b3 : CC := (.seq (.seq (.reg [⟨(some 19), none, (.mv (.tmp 6))⟩, ⟨(some 20), none, (.mv (.tmp 0))⟩, ⟨(some 21), none, (.len true (.tmp 20))⟩, ⟨(some 22), none, (.bin .lss (.tmp 19) (.tmp 21))⟩]) (.cond (.tmp 22) .skip (.exit 0))) (.seq (.block 1 (.seq (.reg [⟨(some 7), none, (.mv (.const (.int .i64 (0))))⟩]) (.block 2 (.loop c82_b2)))) c82_k3))
abbrev c82 : CC := (.seq (.reg [⟨(some 4), none, (.mv (.const (.string ⟨#[]⟩)))⟩]) (.seq (.reg [⟨(some 12), none, (.mv (.tmp 0))⟩, ⟨(some 13), none, (.len true (.tmp 12))⟩, ⟨(some 14), none, (.mv (.tmp 1))⟩, ⟨(some 15), none, (.len true (.tmp 14))⟩, ⟨(some 16), none, (.bin .add (.tmp 13) (.tmp 15))⟩, ⟨(some 17), none, (.bin .add (.tmp 16) (.const (.int .i64 (1))))⟩, ⟨(some 18), none, (.make 3 1 8 [(.int .i64 (0))] (.tmp 17) (.tmp 17))⟩, ⟨(some 5), none, (.mv (.tmp 18))⟩]) (.seq (.seq (.reg [⟨(some 6), none, (.mv (.const (.int .i64 (0))))⟩]) (.block 0 (.loop c82_b3))) c82_k2)))
theorem cc82 : ccode Tryd.prog [] (Tryd.f82.body.getD .skip) = some c82 := by kernel_rfl
theorem body82 : Tryd.f82.body = some (Tryd.f82.body.getD .skip) := rfl

theorem tmul_C (s t : List UInt8) (hs : ∀ c ∈ s, isDig c) (ht : ∀ c ∈ t, isDig c) (ls : s.length ≤ 10000000000) (lt : t.length ≤ 10000000000) : PureC Tryd.prog 82 [aS s, aS t] (.ret (aS (dec (tv s * tv t)))) := by
  refine pureC_of (rs := [(RV.tmp 4)]) Tryd.func82 (fun a w => Tryd.call82 a w) body82 cc82 (by kernel_rfl) ?_
  rw [Tryd.ntmps82]
  simp only [frs, Nat.reduceAdd, Nat.reduceSub]
  have hm : (s.length : Int) + t.length + 1 = ((s.length + t.length + 1 : Nat) : Int) := by omega
  repeat (first | (with_reducible first | refine Way.imp ?_ | refine blk_o rfl ?_) | ((with_reducible refine WayR.imp (fun K hK => ?_)); simp (disch := first | omega | (simp only [dls]; omega)) only [std, reduceIte, reduceCtorEq, Int.reduceToNat, Nat.reduceAdd, Nat.reduceSub, Nat.reduceMul, Int.reduceAdd, Int.reduceSub, Int.reduceMul, Int.reduceNeg, fU, constAV_arr, cons_beq_nil, nil_beq_nil, lenAV_str, constAV_digStr, digList_len, List.take_length, hm, repN, List.length_replicate]; subst hK))
  refine awp_loop (fun (zz : Nat × (List Nat)) => ⟨(aS s :: aS t :: .junk :: .junk :: aS [] :: .one (.own 0 0) :: aI zz.1 :: .junk :: .junk :: .junk :: .junk :: .junk :: .junk :: .junk :: .junk :: .junk :: .junk :: .junk :: .junk :: .junk :: .junk :: .junk :: .junk :: .junk :: .junk :: .junk :: .junk :: .junk :: .junk :: .junk :: .junk :: .junk :: .junk :: .junk :: .junk :: .junk :: .junk :: .junk :: .junk :: .junk :: .junk :: .junk :: .junk :: .junk :: .junk :: .junk :: .junk :: .junk :: .junk :: .junk :: .junk :: .junk :: .junk :: .junk :: .junk :: .junk :: .junk :: .junk :: .junk :: .junk :: .junk :: .junk :: .junk :: .junk :: .junk :: .junk :: .junk :: .junk :: .junk :: .junk :: .junk :: []), [⟨0, 3, 1, encB fN zz.2, true, true⟩]⟩) (fun (zz : Nat × (List Nat)) => zz.1 ≤ s.length ∧ zz.2.length = s.length + t.length + 1 ∧ pv zz.2 = tlow s zz.1 * tv t ∧ ∀ j (h : j < zz.2.length), zz.2[j] ≤ 81 * zz.1) (fun (zz : Nat × (List Nat)) => s.length - zz.1) (0, List.replicate (s.length + t.length + 1) 0) ?hI1 (Fgt.head (Nat.zero_le 1) [true, true, false, false, true, true, true] ?hT1 ?hH1) ?hB1
  case hT1 => first | (simp (disch := omega) only [hds, liveT, cleanAV, cleanCell, clean1, cleanBlk, reduceIte, Int.reduceSub, Int.reduceAdd, Int.reduceNeg]; done) | rfl
  case hH1 => first | (simp (disch := omega) only [hds, liveT, cleanAV, cleanCell, clean1, cleanBlk, reduceIte, Int.reduceSub, Int.reduceAdd, Int.reduceNeg]; done) | rfl
  · dsimp only; exact ⟨by omega, List.length_replicate, by rw [pv_replicate, tlow_zero, Nat.zero_mul], fun j h => by simp⟩
  rintro ⟨i, acc⟩ ⟨hi, hlen, hpv, hbd⟩
  dsimp only at hi hlen hpv hbd
  by_cases him : i = s.length
  · rw [him, tlow_all s (Nat.le_refl _)] at hpv
    rw [him] at hbd
    repeat (first | (with_reducible first | refine Way.imp ?_ | refine blk_o rfl ?_) | ((with_reducible refine WayR.imp (fun K hK => ?_)); simp (disch := first | omega | (simp only [dls]; omega)) only [std, reduceIte, reduceCtorEq, Int.reduceToNat, Nat.reduceAdd, Nat.reduceSub, Nat.reduceMul, Int.reduceAdd, Int.reduceSub, Int.reduceMul, Int.reduceNeg, fU, constAV_arr, cons_beq_nil, nil_beq_nil, lenAV_str, constAV_digStr, digList_len, List.take_length]; subst hK))
    refine awp_loop (fun (zz : Nat × (List UInt8) × Nat) => ⟨(.junk :: .junk :: .junk :: .junk :: aS [] :: .one (.own 0 0) :: .junk :: .junk :: aS zz.2.1 :: aI zz.2.2 :: aI zz.1 :: .junk :: .junk :: .junk :: .junk :: .junk :: .junk :: .junk :: .junk :: .junk :: .junk :: .junk :: .junk :: .junk :: .junk :: .junk :: .junk :: .junk :: .junk :: .junk :: .junk :: .junk :: .junk :: .junk :: .junk :: .junk :: .junk :: .junk :: .junk :: .junk :: .junk :: .junk :: .junk :: .junk :: .junk :: .junk :: .junk :: .junk :: .junk :: .junk :: .junk :: .junk :: .junk :: .junk :: .junk :: .junk :: .junk :: .junk :: .junk :: .junk :: .junk :: .junk :: .junk :: .junk :: .junk :: .junk :: .junk :: .junk :: .junk :: .junk :: .junk :: []), [⟨0, 3, 1, encB fN acc, true, true⟩]⟩) (fun (zz : Nat × (List UInt8) × Nat) => zz.1 ≤ acc.length ∧ zz.2.1.length = zz.1 ∧ (∀ x ∈ zz.2.1, isDig x) ∧ zz.2.2 ≤ 81 * s.length ∧ tv zz.2.1 + 10 ^ zz.1 * zz.2.2 + 10 ^ zz.1 * pv (acc.drop zz.1) = tv s * tv t) (fun (zz : Nat × (List UInt8) × Nat) => acc.length - zz.1) (0, [], 0) ?hI2 (Fgt.head (Nat.zero_le 1) [false, false, false, false, true, true, false, false, true, true, true] ?hT2 ?hH2) ?hB2
    case hT2 => first | (simp (disch := omega) only [hds, liveT, cleanAV, cleanCell, clean1, cleanBlk, reduceIte, Int.reduceSub, Int.reduceAdd, Int.reduceNeg]; done) | rfl
    case hH2 => first | (simp (disch := omega) only [hds, liveT, cleanAV, cleanCell, clean1, cleanBlk, reduceIte, Int.reduceSub, Int.reduceAdd, Int.reduceNeg]; done) | rfl
    · dsimp only; exact ⟨by omega, rfl, by simp, by omega, by simp [tv, rv, hpv]⟩
    rintro ⟨k, out, c⟩ ⟨hk, hol, hdig, hc, hinv⟩
    dsimp only at hk hol hdig hc hinv
    by_cases hkm : k = acc.length
    · have hcut := cut_C out hdig (by omega)
      have hv : tv out = tv s * tv t := by
        rw [hkm, List.drop_length] at hinv
        simp only [pv, Nat.mul_zero, Nat.add_zero] at hinv
        have h1 := tv_lt hs
        have h2 := tv_lt ht
        have h3 : tv s * tv t < 10 ^ acc.length := by
          refine Nat.lt_of_lt_of_le (Nat.mul_lt_mul'' h1 h2) ?_
          rw [← Nat.pow_add]
          exact Nat.pow_le_pow_right (by decide) (by omega)
        cases c with
        | zero => simpa using hinv
        | succ c =>
          have : 10 ^ acc.length * 1 ≤ 10 ^ acc.length * (c + 1) := Nat.mul_le_mul_left _ (by omega)
          omega
      rw [hv] at hcut
      repeat (first | (with_reducible first | refine Way.imp ?_ | refine blk_o rfl ?_) | ((with_reducible refine WayR.imp (fun K hK => ?_)); simp (disch := first | omega | (simp only [dls]; omega)) only [std, reduceIte, reduceCtorEq, Int.reduceToNat, Nat.reduceAdd, Nat.reduceSub, Nat.reduceMul, Int.reduceAdd, Int.reduceSub, Int.reduceMul, Int.reduceNeg, fU, constAV_arr, cons_beq_nil, nil_beq_nil, lenAV_str, constAV_digStr, digList_len, List.take_length]; subst hK) | refine zcA (hcut) rfl rfl rfl ?_)
      exact ⟨_, rfl, rfl⟩
    · have hka : k < acc.length := by omega
      have hx := hbd k hka
      have hdm : (acc[k] + c) % 10 < 10 := Nat.mod_lt _ (by decide)
      have hsg := sign_C _ hdm
      have hs1 : (acc[k] : Int) + c = ((acc[k] + c : Nat) : Int) := by omega
      have hr : ((acc[k] + c : Nat) : Int).tmod 10 = (((acc[k] + c) % 10 : Nat) : Int) := by rw [tmod_nn (by omega)]; simp
      have hq : ((acc[k] + c : Nat) : Int).tdiv 10 = (((acc[k] + c) / 10 : Nat) : Int) := by rw [tdiv_nn (by omega)]; simp
      have hcs := carry_step (O := tv out) (c := c) (x := acc[k]) (R := pv (acc.drop (k + 1))) (P := tv s * tv t) (k := k) (by rw [← pv_drop acc k hka]; exact hinv)
      have hb2 : (acc[k] + c) / 10 ≤ 81 * s.length := by omega
      have hb3 : acc[k] + c ≤ 9000000000000 := by omega
      generalize hm2 : acc[k] + c = m at *
      repeat (first | (with_reducible first | refine Way.imp ?_ | refine blk_o rfl ?_) | ((with_reducible refine WayR.imp (fun K hK => ?_)); simp (disch := first | omega | (simp only [dls]; omega)) only [std, reduceIte, reduceCtorEq, Int.reduceToNat, Nat.reduceAdd, Nat.reduceSub, Nat.reduceMul, Int.reduceAdd, Int.reduceSub, Int.reduceMul, Int.reduceNeg, fU, constAV_arr, cons_beq_nil, nil_beq_nil, lenAV_str, constAV_digStr, digList_len, List.take_length, fN, hs1, hm2, hr, hq]; subst hK) | refine zcA (hsg) rfl rfl rfl ?_)
      refine ⟨(k + 1, chr (m % 10) :: out, m / 10), ?hI3, ?hM3, Fgt.head (Nat.zero_le 1) [false, false, false, false, true, true, false, false, true, true, true] ?hT3 ?hH3⟩
      case hT3 => first | (simp (disch := omega) only [hds, liveT, cleanAV, cleanCell, clean1, cleanBlk, reduceIte, Int.reduceSub, Int.reduceAdd, Int.reduceNeg]; done) | rfl
      case hH3 => first | (simp (disch := omega) only [hds, liveT, cleanAV, cleanCell, clean1, cleanBlk, reduceIte, Int.reduceSub, Int.reduceAdd, Int.reduceNeg]; done) | rfl
      · dsimp only
        refine ⟨by omega, by simp [hol], ?_, hb2, ?_⟩
        · intro x hx
          rcases List.mem_cons.1 hx with rfl | hx
          · exact chr_dig hdm
          · exact hdig x hx
        · rw [tv_cons, chr_val hdm, hol]
          exact hcs
      · dsimp only; omega
  · repeat (first | (with_reducible first | refine Way.imp ?_ | refine blk_o rfl ?_) | ((with_reducible refine WayR.imp (fun K hK => ?_)); simp (disch := first | omega | (simp only [dls]; omega)) only [std, reduceIte, reduceCtorEq, Int.reduceToNat, Nat.reduceAdd, Nat.reduceSub, Nat.reduceMul, Int.reduceAdd, Int.reduceSub, Int.reduceMul, Int.reduceNeg, fU, constAV_arr, cons_beq_nil, nil_beq_nil, lenAV_str, constAV_digStr, digList_len, List.take_length]; subst hK))
    refine awp_loop (fun (zz : Nat × (List Nat)) => ⟨(aS s :: aS t :: .junk :: .junk :: aS [] :: .one (.own 0 0) :: aI i :: aI zz.1 :: .junk :: .junk :: .junk :: .junk :: .junk :: .junk :: .junk :: .junk :: .junk :: .junk :: .junk :: .junk :: .junk :: .junk :: .junk :: .junk :: .junk :: .junk :: .junk :: .junk :: .junk :: .junk :: .junk :: .junk :: .junk :: .junk :: .junk :: .junk :: .junk :: .junk :: .junk :: .junk :: .junk :: .junk :: .junk :: .junk :: .junk :: .junk :: .junk :: .junk :: .junk :: .junk :: .junk :: .junk :: .junk :: .junk :: .junk :: .junk :: .junk :: .junk :: .junk :: .junk :: .junk :: .junk :: .junk :: .junk :: .junk :: .junk :: .junk :: .junk :: .junk :: .junk :: .junk :: []), [⟨0, 3, 1, encB fN zz.2, true, true⟩]⟩) (fun (zz : Nat × (List Nat)) => zz.1 ≤ t.length ∧ zz.2.length = s.length + t.length + 1 ∧ pv zz.2 = tlow s i * tv t + 10 ^ i * tdg s i * tlow t zz.1 ∧ (∀ j (h : j < zz.2.length), zz.2[j] ≤ 81 * (i + 1)) ∧ ∀ j (h : j < zz.2.length), i + zz.1 ≤ j → zz.2[j] ≤ 81 * i) (fun (zz : Nat × (List Nat)) => t.length - zz.1) (0, acc) ?hI4 (Fgt.head (Nat.zero_le 1) [true, true, false, false, true, true, true, true] ?hT4 ?hH4) ?hB4
    case hT4 => first | (simp (disch := omega) only [hds, liveT, cleanAV, cleanCell, clean1, cleanBlk, reduceIte, Int.reduceSub, Int.reduceAdd, Int.reduceNeg]; done) | rfl
    case hH4 => first | (simp (disch := omega) only [hds, liveT, cleanAV, cleanCell, clean1, cleanBlk, reduceIte, Int.reduceSub, Int.reduceAdd, Int.reduceNeg]; done) | rfl
    · dsimp only; exact ⟨by omega, hlen, by rw [hpv, tlow_zero]; simp, fun j h => by have := hbd j h; omega, fun j h _ => hbd j h⟩
    clear hlen hpv hbd
    rintro ⟨k, acc2⟩ ⟨hk, hlen, hpv, hbd, hbd2⟩
    dsimp only at hk hlen hpv hbd hbd2
    by_cases hkm : k = t.length
    · repeat (first | (with_reducible first | refine Way.imp ?_ | refine blk_o rfl ?_) | ((with_reducible refine WayR.imp (fun K hK => ?_)); simp (disch := first | omega | (simp only [dls]; omega)) only [std, reduceIte, reduceCtorEq, Int.reduceToNat, Nat.reduceAdd, Nat.reduceSub, Nat.reduceMul, Int.reduceAdd, Int.reduceSub, Int.reduceMul, Int.reduceNeg, fU, constAV_arr, cons_beq_nil, nil_beq_nil, lenAV_str, constAV_digStr, digList_len, List.take_length]; subst hK))
      refine ⟨(i + 1, acc2), ?hI5, ?hM5, Fgt.head (Nat.zero_le 1) [true, true, false, false, true, true, true] ?hT5 ?hH5⟩
      case hT5 => first | (simp (disch := omega) only [hds, liveT, cleanAV, cleanCell, clean1, cleanBlk, reduceIte, Int.reduceSub, Int.reduceAdd, Int.reduceNeg]; done) | rfl
      case hH5 => first | (simp (disch := omega) only [hds, liveT, cleanAV, cleanCell, clean1, cleanBlk, reduceIte, Int.reduceSub, Int.reduceAdd, Int.reduceNeg]; done) | rfl
      · dsimp only
        refine ⟨by omega, hlen, ?_, hbd⟩
        rw [hpv, hkm, tlow_all t (Nat.le_refl _), tlow_succ, Nat.add_mul]
      · dsimp only; omega
    · have hik : i + k < acc2.length := by omega
      have hx := hbd2 (i + k) hik (Nat.le_refl _)
      have d1 := tdg_lt hs i
      have d2 := tdg_lt ht k
      have hxy := int_mul_le d1 d2
      have a1 := rat_C s i hs (by omega) (by omega)
      have a2 := rat_C t k ht (by omega) (by omega)
      have hik2 : ((i : Int) + (k : Int)).toNat = i + k := by omega
      have hmul : (tdg s i : Int) * (tdg t k : Int) = ((tdg s i * tdg t k : Nat) : Int) := by simp
      have hadd : (acc2[i + k] : Int) + ((tdg s i * tdg t k : Nat) : Int) = ((acc2[i + k] + tdg s i * tdg t k : Nat) : Int) := by simp
      have hps := pv_set acc2 (i + k) hik (acc2[i + k] + tdg s i * tdg t k)
      have hpe : tlow t (k + 1) = tlow t k + 10 ^ k * tdg t k := tlow_succ t k
      have hpv2 : pv (acc2.set (i + k) (acc2[i + k] + tdg s i * tdg t k)) = tlow s i * tv t + 10 ^ i * tdg s i * tlow t (k + 1) := by
        rw [hpe, Nat.mul_add (10 ^ i * tdg s i), ← Nat.add_assoc, ← hpv]
        have e : 10 ^ i * tdg s i * (10 ^ k * tdg t k) = 10 ^ (i + k) * (tdg s i * tdg t k) := by rw [Nat.pow_add]; ac_rfl
        rw [e]
        rw [Nat.mul_add] at hps
        omega
      generalize tdg s i * tdg t k = p at *
      repeat (first | (with_reducible first | refine Way.imp ?_ | refine blk_o rfl ?_) | ((with_reducible refine WayR.imp (fun K hK => ?_)); simp (disch := first | omega | (simp only [dls]; omega)) only [std, reduceIte, reduceCtorEq, Int.reduceToNat, Nat.reduceAdd, Nat.reduceSub, Nat.reduceMul, Int.reduceAdd, Int.reduceSub, Int.reduceMul, Int.reduceNeg, fU, constAV_arr, cons_beq_nil, nil_beq_nil, lenAV_str, constAV_digStr, digList_len, List.take_length, fN, hik2, hmul, hadd, setN]; subst hK) | refine zcA (a1) rfl rfl rfl ?_ | refine zcA (a2) rfl rfl rfl ?_)
      refine ⟨(k + 1, acc2.set (i + k) (acc2[i + k] + p)), ?hI6, ?hM6, Fgt.head (Nat.zero_le 1) [true, true, false, false, true, true, true, true] ?hT6 ?hH6⟩
      case hT6 => first | (simp (disch := omega) only [hds, liveT, cleanAV, cleanCell, clean1, cleanBlk, reduceIte, Int.reduceSub, Int.reduceAdd, Int.reduceNeg]; done) | rfl
      case hH6 => first | (simp (disch := omega) only [hds, liveT, cleanAV, cleanCell, clean1, cleanBlk, reduceIte, Int.reduceSub, Int.reduceAdd, Int.reduceNeg]; done) | rfl
      · dsimp only
        refine ⟨by omega, by rw [List.length_set]; exact hlen, hpv2, fun j h => ?_, fun j h hj => ?_⟩
        · rw [List.getElem_set]
          split
          · omega
          · exact hbd j (by rw [List.length_set] at h; exact h)
        · rw [List.getElem_set_ne (by omega)]
          exact hbd2 j (by rw [List.length_set] at h; exact h) (by omega)
      · dsimp only; omega

end Go.Proofs.YtdhkdnmefeeclaaDoor
set_option linter.unusedSimpArgs false
set_option linter.unusedVariables false
set_option maxRecDepth 100000
set_option maxHeartbeats 4000000
namespace Go.Proofs.YtdhkdnmefeeclaaDoor
open Go Go.Am Go.Proofs Go.Off
def wStr : Value := .string ⟨#[52, 50, 57, 52, 57, 54, 55, 50, 57, 54]⟩
theorem constAV_wStr : constAV wStr = aS (dec 4294967296) := by rw [dec_wbase]; rfl

/-- A number's text is not too long. -/
def Short (n : Nat) : Prop := (dec n).length ≤ 10000000000
theorem Short.le {n m : Nat} (h : Short n) (hm : m ≤ n) : Short m := by
  unfold Short at *
  refine Decidable.byContradiction fun h2 => ?_
  have := dec_len_lt (a := n) (b := m) (by omega)
  omega

abbrev c109_k1 : CC := (.seq (.reg [⟨(some 37), none, (.mv (.tmp 6))⟩, ⟨(some 38), none, (.callf (.func 107) [(.tmp 37)])⟩, ⟨(some 39), none, (.mv (.tmp 7))⟩, ⟨(some 4), none, (.mv (.tmp 38))⟩, ⟨(some 5), none, (.mv (.tmp 39))⟩]) .ret)
abbrev c109_k2 : CC := (.reg [⟨(some 14), none, (.mv (.tmp 8))⟩, ⟨(some 15), none, (.bin .add (.tmp 14) (.const (.int .i64 (1))))⟩, ⟨(some 8), none, (.mv (.tmp 15))⟩])
abbrev c109_k3 : CC := (.reg [⟨(some 33), none, (.mv (.tmp 6))⟩, ⟨(some 34), none, (.mv (.tmp 9))⟩, ⟨(some 35), none, (.callf (.func 105) [(.tmp 34)])⟩, ⟨(some 36), none, (.bin .add (.tmp 33) (.tmp 35))⟩, ⟨(some 6), none, (.mv (.tmp 36))⟩])
abbrev c109_b1 : CC := (.seq (.seq (.reg [⟨(some 24), none, (.mv (.tmp 7))⟩, ⟨(some 25), none, (.mv (.tmp 1))⟩, ⟨(some 26), none, (.callf (.func 110) [(.tmp 24), (.tmp 25)])⟩, ⟨(some 27), none, (.un .not (.tmp 26))⟩]) (.cond (.tmp 27) .skip (.exit 2))) (.block 3 (.seq (.reg [⟨(some 28), none, (.mv (.tmp 7))⟩, ⟨(some 29), none, (.mv (.tmp 1))⟩, ⟨(some 30), none, (.callf (.func 111) [(.tmp 28), (.tmp 29)])⟩, ⟨(some 7), none, (.mv (.tmp 30))⟩]) (.reg [⟨(some 31), none, (.mv (.tmp 9))⟩, ⟨(some 32), none, (.bin .add (.tmp 31) (.const (.int .i64 (1))))⟩, ⟨(some 9), none, (.mv (.tmp 32))⟩]))))
abbrev c109_b2 : CC := (.seq (.seq (.reg [⟨(some 10), none, (.mv (.tmp 8))⟩, ⟨(some 11), none, (.mv (.tmp 0))⟩, ⟨(some 12), none, (.len true (.tmp 11))⟩, ⟨(some 13), none, (.bin .lss (.tmp 10) (.tmp 12))⟩]) (.cond (.tmp 13) .skip (.exit 0))) (.seq (.block 1 (.seq (.reg [⟨(some 16), none, (.mv (.tmp 7))⟩, ⟨(some 17), none, (.mv (.tmp 0))⟩, ⟨(some 18), none, (.mv (.tmp 8))⟩, ⟨(some 19), none, (.mv (.tmp 8))⟩, ⟨(some 20), none, (.bin .add (.tmp 19) (.const (.int .i64 (1))))⟩, ⟨(some 21), none, (.sslice (.tmp 17) (some (.tmp 18)) (some (.tmp 20)))⟩, ⟨(some 22), none, (.bin .add (.tmp 16) (.tmp 21))⟩, ⟨(some 23), none, (.callf (.func 107) [(.tmp 22)])⟩, ⟨(some 7), none, (.mv (.tmp 23))⟩]) (.seq (.reg [⟨(some 9), none, (.mv (.const (.int .i64 (0))))⟩]) (.seq (.block 2 (.loop c109_b1)) c109_k3)))) c109_k2))
abbrev c109 : CC := (.seq (.reg [⟨(some 4), none, (.mv (.const (.string ⟨#[]⟩)))⟩, ⟨(some 5), none, (.mv (.const (.string ⟨#[]⟩)))⟩]) (.seq (.reg [⟨(some 6), none, (.mv (.const (.string ⟨#[]⟩)))⟩]) (.seq (.reg [⟨(some 7), none, (.mv (.const (.string ⟨#[48]⟩)))⟩]) (.seq (.seq (.reg [⟨(some 8), none, (.mv (.const (.int .i64 (0))))⟩]) (.block 0 (.loop c109_b2))) c109_k1))))
theorem cc109 : ccode Tryd.prog [] (Tryd.f109.body.getD .skip) = some c109 := by kernel_rfl
theorem body109 : Tryd.f109.body = some (Tryd.f109.body.getD .skip) := rfl

theorem tdivmod_C (a b : Nat) (ha : Short a) (hb : (dec b).length ≤ 10000000000) (h0 : b ≠ 0) : PureC Tryd.prog 109 [aS (dec a), aS (dec b)] (.ret (.tup [aS (dec (a / b)), aS (dec (a % b))])) := by
  have hda := dec_dig a
  have hta := tv_dec a
  unfold Short at ha
  generalize dec a = s at *
  have hbp : 0 < b := Nat.pos_of_ne_zero h0
  refine pureC_of (rs := [(RV.tmp 4), (RV.tmp 5)]) Tryd.func109 (fun a w => Tryd.call109 a w) body109 cc109 (by kernel_rfl) ?_
  rw [Tryd.ntmps109]
  simp only [frs, Nat.reduceAdd, Nat.reduceSub]
  repeat (first | (with_reducible first | refine Way.imp ?_ | refine blk_o rfl ?_) | ((with_reducible refine WayR.imp (fun K hK => ?_)); simp (disch := first | omega | (simp only [dls]; omega)) only [std, reduceIte, reduceCtorEq, Int.reduceToNat, Nat.reduceAdd, Nat.reduceSub, Nat.reduceMul, Int.reduceAdd, Int.reduceSub, Int.reduceMul, Int.reduceNeg, fU, constAV_arr, cons_beq_nil, nil_beq_nil, lenAV_str, constAV_digStr, digList_len, constAV_wStr]; subst hK))
  refine awp_loop (fun (zz : Nat × (List UInt8) × Nat) => ⟨(aS s :: aS (dec b) :: .junk :: .junk :: aS [] :: aS [] :: aS zz.2.1 :: aS (dec zz.2.2) :: aI zz.1 :: .junk :: .junk :: .junk :: .junk :: .junk :: .junk :: .junk :: .junk :: .junk :: .junk :: .junk :: .junk :: .junk :: .junk :: .junk :: .junk :: .junk :: .junk :: .junk :: .junk :: .junk :: .junk :: .junk :: .junk :: .junk :: .junk :: .junk :: .junk :: .junk :: .junk :: .junk :: []), []⟩) (fun (zz : Nat × (List UInt8) × Nat) => zz.1 ≤ s.length ∧ zz.2.1.length = zz.1 ∧ (∀ x ∈ zz.2.1, isDig x) ∧ zz.2.2 < b ∧ tv (s.take zz.1) = tv zz.2.1 * b + zz.2.2) (fun (zz : Nat × (List UInt8) × Nat) => s.length - zz.1) (0, [], 0) ?hI1 (Fgt.head (Nat.le_refl _) [true, true, false, false, true, true, true, true, true] ?hT1 ?hH1) ?hB1
  case hT1 => first | (simp (disch := omega) only [hds, liveT, cleanAV, cleanCell, clean1, cleanBlk, reduceIte, Int.reduceSub, Int.reduceAdd, Int.reduceNeg]; done) | rfl
  case hH1 => first | (simp (disch := omega) only [hds, liveT, cleanAV, cleanCell, clean1, cleanBlk, reduceIte, Int.reduceSub, Int.reduceAdd, Int.reduceNeg]; done) | rfl
  · dsimp only; exact ⟨by omega, rfl, by simp, hbp, by simp [tv, rv]⟩
  rintro ⟨i, out, r⟩ ⟨hi, hol, hdig, hr, hinv⟩
  dsimp only at hi hol hdig hr hinv
  have hrl : (dec r).length ≤ (dec b).length := by
    refine Decidable.byContradiction fun h2 => ?_
    have := dec_len_lt (a := b) (b := r) (by omega)
    omega
  by_cases him : i = s.length
  · have hcut := cut_C out hdig (by omega)
    rw [him, List.take_length, hta] at hinv
    have hq : tv out = a / b := by rw [hinv, Nat.add_comm, Nat.add_mul_div_right _ _ hbp, Nat.div_eq_of_lt hr, Nat.zero_add]
    have hm : r = a % b := by rw [hinv, Nat.add_comm, Nat.add_mul_mod_self_right, Nat.mod_eq_of_lt hr]
    rw [hq] at hcut
    rw [← hm]
    repeat (first | (with_reducible first | refine Way.imp ?_ | refine blk_o rfl ?_) | ((with_reducible refine WayR.imp (fun K hK => ?_)); simp (disch := first | omega | (simp only [dls]; omega)) only [std, reduceIte, reduceCtorEq, Int.reduceToNat, Nat.reduceAdd, Nat.reduceSub, Nat.reduceMul, Int.reduceAdd, Int.reduceSub, Int.reduceMul, Int.reduceNeg, fU, constAV_arr, cons_beq_nil, nil_beq_nil, lenAV_str, constAV_digStr, digList_len, constAV_wStr]; subst hK) | refine zcA (hcut) rfl rfl rfl ?_)
    exact ⟨_, rfl, rfl⟩
  · have hil : i < s.length := by omega
    have hd := hda _ (List.getElem_mem hil)
    have hs1 : (List.take (i + 1) s).drop i = [s[i]] := by
      rw [List.take_succ_eq_append_getElem hil, List.drop_append_of_le_length (by simp; omega), List.drop_eq_nil_of_le (by simp; omega)]
      rfl
    have hi1 : ((i : Int) + 1).toNat = i + 1 := by omega
    have hdd : ∀ c ∈ dec r ++ [s[i]], isDig c := fun c hc => by
      rcases List.mem_append.1 hc with hc | hc
      · exact dec_dig r c hc
      · rw [List.mem_singleton.1 hc]; exact hd
    have hcut := cut_C (dec r ++ [s[i]]) hdd (by rw [List.length_append, List.length_singleton]; omega)
    rw [tv_snoc, tv_dec] at hcut
    have htk := tv_take_succ s i hil
    unfold isDig at hd
    generalize hR : 10 * r + (s[i].toNat - 48) = R at *
    have hR10 : R < 10 * b := by omega
    repeat (first | (with_reducible first | refine Way.imp ?_ | refine blk_o rfl ?_) | ((with_reducible refine WayR.imp (fun K hK => ?_)); simp (disch := first | omega | (simp only [dls]; omega)) only [std, reduceIte, reduceCtorEq, Int.reduceToNat, Nat.reduceAdd, Nat.reduceSub, Nat.reduceMul, Int.reduceAdd, Int.reduceSub, Int.reduceMul, Int.reduceNeg, fU, constAV_arr, cons_beq_nil, nil_beq_nil, lenAV_str, constAV_digStr, digList_len, constAV_wStr, hi1, hs1]; subst hK) | refine zcA (hcut) rfl rfl rfl ?_)
    refine awp_loop (fun (zz : Nat × Nat) => ⟨(aS s :: aS (dec b) :: .junk :: .junk :: aS [] :: aS [] :: aS out :: aS (dec zz.2) :: aI i :: aI zz.1 :: .junk :: .junk :: .junk :: .junk :: .junk :: .junk :: .junk :: .junk :: .junk :: .junk :: .junk :: .junk :: .junk :: .junk :: .junk :: .junk :: .junk :: .junk :: .junk :: .junk :: .junk :: .junk :: .junk :: .junk :: .junk :: .junk :: .junk :: .junk :: .junk :: .junk :: []), []⟩) (fun (zz : Nat × Nat) => R = zz.1 * b + zz.2) (fun (zz : Nat × Nat) => zz.2) (0, R) ?hI2 (Fgt.head (Nat.le_refl _) [true, true, false, false, true, true, true, true, true, true] ?hT2 ?hH2) ?hB2
    case hT2 => first | (simp (disch := omega) only [hds, liveT, cleanAV, cleanCell, clean1, cleanBlk, reduceIte, Int.reduceSub, Int.reduceAdd, Int.reduceNeg]; done) | rfl
    case hH2 => first | (simp (disch := omega) only [hds, liveT, cleanAV, cleanCell, clean1, cleanBlk, reduceIte, Int.reduceSub, Int.reduceAdd, Int.reduceNeg]; done) | rfl
    · dsimp only; omega
    rintro ⟨n, q⟩ hq
    dsimp only at hq
    have hless := tless_C q b
    have hn9 : n ≤ 9 := by
      refine Decidable.byContradiction fun h => ?_
      have : 10 * b ≤ n * b := Nat.mul_le_mul_right _ (by omega)
      omega
    have hql : (dec q).length ≤ (dec b).length + 1 := by
      refine Decidable.byContradiction fun h2 => ?_
      have h3 := tv_lt (dec_dig b)
      rw [tv_dec] at h3
      have h4 : q < 10 ^ ((dec b).length + 1) := by rw [Nat.pow_succ]; omega
      have := dec_len_mono_le h4 (by omega)
      omega
    by_cases hlt : q < b
    · rw [show decide (q < b) = true from by simp [hlt]] at hless
      have hsg := sign_C n (by omega)
      repeat (first | (with_reducible first | refine Way.imp ?_ | refine blk_o rfl ?_) | ((with_reducible refine WayR.imp (fun K hK => ?_)); simp (disch := first | omega | (simp only [dls]; omega)) only [std, reduceIte, reduceCtorEq, Int.reduceToNat, Nat.reduceAdd, Nat.reduceSub, Nat.reduceMul, Int.reduceAdd, Int.reduceSub, Int.reduceMul, Int.reduceNeg, fU, constAV_arr, cons_beq_nil, nil_beq_nil, lenAV_str, constAV_digStr, digList_len, constAV_wStr]; subst hK) | refine zcA (hless) rfl rfl rfl ?_ | refine zcA (hsg) rfl rfl rfl ?_)
      refine ⟨(i + 1, out ++ [chr n], q), ?hI3, ?hM3, Fgt.head (Nat.le_refl _) [true, true, false, false, true, true, true, true, true] ?hT3 ?hH3⟩
      case hT3 => first | (simp (disch := omega) only [hds, liveT, cleanAV, cleanCell, clean1, cleanBlk, reduceIte, Int.reduceSub, Int.reduceAdd, Int.reduceNeg]; done) | rfl
      case hH3 => first | (simp (disch := omega) only [hds, liveT, cleanAV, cleanCell, clean1, cleanBlk, reduceIte, Int.reduceSub, Int.reduceAdd, Int.reduceNeg]; done) | rfl
      · dsimp only
        refine ⟨by omega, by simp [hol], fun c hc => ?_, hlt, ?_⟩
        · rcases List.mem_append.1 hc with hc | hc
          · exact hdig c hc
          · rw [List.mem_singleton.1 hc]; exact chr_dig (by omega)
        · rw [htk, hinv, tv_snoc, chr_val (by omega), Nat.mul_add]
          have e : 10 * (tv out * b) + 10 * r + (s[i].toNat - 48) = 10 * (tv out * b) + R := by omega
          rw [e, hq, Nat.add_mul, Nat.mul_assoc]
          omega
      · dsimp only; omega
    · rw [show decide (q < b) = false from by simp [hlt]] at hless
      have hsub := tsub_C (dec q) (dec b) (dec_dig q) (dec_dig b) (by omega) (by omega) (by rw [tv_dec, tv_dec]; omega)
      rw [tv_dec, tv_dec] at hsub
      repeat (first | (with_reducible first | refine Way.imp ?_ | refine blk_o rfl ?_) | ((with_reducible refine WayR.imp (fun K hK => ?_)); simp (disch := first | omega | (simp only [dls]; omega)) only [std, reduceIte, reduceCtorEq, Int.reduceToNat, Nat.reduceAdd, Nat.reduceSub, Nat.reduceMul, Int.reduceAdd, Int.reduceSub, Int.reduceMul, Int.reduceNeg, fU, constAV_arr, cons_beq_nil, nil_beq_nil, lenAV_str, constAV_digStr, digList_len, constAV_wStr]; subst hK) | refine zcA (hless) rfl rfl rfl ?_ | refine zcA (hsub) rfl rfl rfl ?_)
      refine ⟨(n + 1, q - b), ?hI4, ?hM4, Fgt.head (Nat.le_refl _) [true, true, false, false, true, true, true, true, true, true] ?hT4 ?hH4⟩
      case hT4 => first | (simp (disch := omega) only [hds, liveT, cleanAV, cleanCell, clean1, cleanBlk, reduceIte, Int.reduceSub, Int.reduceAdd, Int.reduceNeg]; done) | rfl
      case hH4 => first | (simp (disch := omega) only [hds, liveT, cleanAV, cleanCell, clean1, cleanBlk, reduceIte, Int.reduceSub, Int.reduceAdd, Int.reduceNeg]; done) | rfl
      · dsimp only
        rw [Nat.add_mul]
        omega
      · dsimp only; omega

abbrev c108_k1 : CC := (.seq (.reg [⟨(some 17), none, (.mv (.tmp 0))⟩, ⟨(some 4), none, (.mv (.tmp 17))⟩]) .ret)
abbrev c108_b1 : CC := (.seq (.seq (.reg [⟨(some 7), none, (.mv (.tmp 1))⟩, ⟨(some 8), none, (.bin .neq (.tmp 7) (.const (.string ⟨#[48]⟩)))⟩]) (.cond (.tmp 8) .skip (.exit 0))) (.block 1 (.seq (.reg [⟨(some 10), none, (.mv (.tmp 0))⟩, ⟨(some 11), none, (.mv (.tmp 1))⟩, ⟨(some 12), none, (.callf (.func 109) [(.tmp 10), (.tmp 11)])⟩, ⟨(some 9), none, (.mv (.tmp 12))⟩, ⟨(some 13), none, (.ext (.tmp 9) 0)⟩, ⟨(some 14), none, (.ext (.tmp 9) 1)⟩, ⟨(some 5), none, (.mv (.tmp 13))⟩, ⟨(some 6), none, (.mv (.tmp 14))⟩]) (.seq (.reg [⟨(some 15), none, (.mv (.tmp 1))⟩, ⟨(some 0), none, (.mv (.tmp 15))⟩]) (.reg [⟨(some 16), none, (.mv (.tmp 6))⟩, ⟨(some 1), none, (.mv (.tmp 16))⟩])))))
abbrev c108 : CC := (.seq (.reg [⟨(some 4), none, (.mv (.const (.string ⟨#[]⟩)))⟩]) (.seq (.block 0 (.loop c108_b1)) c108_k1))
theorem cc108 : ccode Tryd.prog [] (Tryd.f108.body.getD .skip) = some c108 := by kernel_rfl
theorem body108 : Tryd.f108.body = some (Tryd.f108.body.getD .skip) := rfl

theorem tgcd_C (a b : Nat) (ha : Short a) (hb : Short b) : PureC Tryd.prog 108 [aS (dec a), aS (dec b)] (.ret (aS (dec (Nat.gcd a b)))) := by
  refine pureC_of (rs := [(RV.tmp 4)]) Tryd.func108 (fun a w => Tryd.call108 a w) body108 cc108 (by kernel_rfl) ?_
  rw [Tryd.ntmps108]
  simp only [frs, Nat.reduceAdd, Nat.reduceSub]
  repeat (first | (with_reducible first | refine Way.imp ?_ | refine blk_o rfl ?_) | ((with_reducible refine WayR.imp (fun K hK => ?_)); simp (disch := first | omega | (simp only [dls]; omega)) only [std, reduceIte, reduceCtorEq, Int.reduceToNat, Nat.reduceAdd, Nat.reduceSub, Nat.reduceMul, Int.reduceAdd, Int.reduceSub, Int.reduceMul, Int.reduceNeg, fU, constAV_arr, cons_beq_nil, nil_beq_nil, lenAV_str, constAV_digStr, digList_len, constAV_wStr]; subst hK))
  refine awp_loop (fun (zz : Nat × Nat) => ⟨(aS (dec zz.1) :: aS (dec zz.2) :: .junk :: .junk :: aS [] :: .junk :: .junk :: .junk :: .junk :: .junk :: .junk :: .junk :: .junk :: .junk :: .junk :: .junk :: .junk :: .junk :: []), []⟩) (fun (zz : Nat × Nat) => Nat.gcd zz.1 zz.2 = Nat.gcd a b ∧ Short zz.1 ∧ Short zz.2) (fun (zz : Nat × Nat) => zz.2) (a, b) ?hI5 (Fgt.head (Nat.le_refl _) [true, true, false, false, true] ?hT5 ?hH5) ?hB5
  case hT5 => first | (simp (disch := omega) only [hds, liveT, cleanAV, cleanCell, clean1, cleanBlk, reduceIte, Int.reduceSub, Int.reduceAdd, Int.reduceNeg]; done) | rfl
  case hH5 => first | (simp (disch := omega) only [hds, liveT, cleanAV, cleanCell, clean1, cleanBlk, reduceIte, Int.reduceSub, Int.reduceAdd, Int.reduceNeg]; done) | rfl
  · exact ⟨rfl, ha, hb⟩
  rintro ⟨x, y⟩ ⟨hg, hx, hy⟩
  dsimp only at hg hx hy
  have hz := dec_eq_zero y
  by_cases h0 : y = 0
  · rw [show decide (y = 0) = true from by simp [h0]] at hz
    repeat (first | (with_reducible first | refine Way.imp ?_ | refine blk_o rfl ?_) | ((with_reducible refine WayR.imp (fun K hK => ?_)); simp (disch := first | omega | (simp only [dls]; omega)) only [std, reduceIte, reduceCtorEq, Int.reduceToNat, Nat.reduceAdd, Nat.reduceSub, Nat.reduceMul, Int.reduceAdd, Int.reduceSub, Int.reduceMul, Int.reduceNeg, fU, constAV_arr, cons_beq_nil, nil_beq_nil, lenAV_str, constAV_digStr, digList_len, constAV_wStr, hz]; subst hK))
    refine ⟨_, rfl, ?_⟩
    rw [← hg, h0, Nat.gcd_zero_right]
    exact rfl
  · rw [show decide (y = 0) = false from by simp [h0]] at hz
    have hdm := tdivmod_C x y hx hy h0
    repeat (first | (with_reducible first | refine Way.imp ?_ | refine blk_o rfl ?_) | ((with_reducible refine WayR.imp (fun K hK => ?_)); simp (disch := first | omega | (simp only [dls]; omega)) only [std, reduceIte, reduceCtorEq, Int.reduceToNat, Nat.reduceAdd, Nat.reduceSub, Nat.reduceMul, Int.reduceAdd, Int.reduceSub, Int.reduceMul, Int.reduceNeg, fU, constAV_arr, cons_beq_nil, nil_beq_nil, lenAV_str, constAV_digStr, digList_len, constAV_wStr, hz]; subst hK) | refine zcA (hdm) rfl rfl rfl ?_)
    refine ⟨(y, x % y), ?hI6, ?hM6, Fgt.head (Nat.le_refl _) [true, true, false, false, true] ?hT6 ?hH6⟩
    case hT6 => first | (simp (disch := omega) only [hds, liveT, cleanAV, cleanCell, clean1, cleanBlk, reduceIte, Int.reduceSub, Int.reduceAdd, Int.reduceNeg]; done) | rfl
    case hH6 => first | (simp (disch := omega) only [hds, liveT, cleanAV, cleanCell, clean1, cleanBlk, reduceIte, Int.reduceSub, Int.reduceAdd, Int.reduceNeg]; done) | rfl
    · dsimp only
      exact ⟨by rw [gcd_step, hg], hy, hy.le (Nat.le_of_lt (Nat.mod_lt _ (Nat.pos_of_ne_zero h0)))⟩
    · dsimp only; exact Nat.mod_lt _ (Nat.pos_of_ne_zero h0)

theorem short_of {n L : Nat} (h : (digits n).length ≤ L) (hL : L ≤ 100000000) : (dec n).length ≤ 10 * L + 1 ∧ Short n := by
  have := dec_len h
  exact ⟨this, by unfold Short; omega⟩

theorem val_nil : val [] = 0 := rfl
theorem dec_nil : dec 0 = [48] := rfl

abbrev c78_k1 : CC := (.seq (.reg [⟨(some 34), none, (.mv (.tmp 3))⟩, ⟨(some 2), none, (.mv (.tmp 34))⟩]) .ret)
abbrev c78_k2 : CC := (.reg [⟨(some 12), none, (.mv (.tmp 4))⟩, ⟨(some 13), none, (.bin .sub (.tmp 12) (.const (.int .i64 (1))))⟩, ⟨(some 4), none, (.mv (.tmp 13))⟩])
abbrev c78_k3 : CC := (.reg [⟨(some 30), none, (.mv (.tmp 3))⟩, ⟨(some 31), none, (.mv (.tmp 6))⟩, ⟨(some 32), none, (.callf (.func 107) [(.tmp 31)])⟩, ⟨(some 33), none, (.callf (.func 106) [(.tmp 30), (.tmp 32)])⟩, ⟨(some 3), none, (.mv (.tmp 33))⟩])
abbrev c78_b1 : CC := (.seq (.seq (.reg [⟨(some 20), none, (.mv (.tmp 5))⟩, ⟨(some 21), none, (.bin .gtr (.tmp 20) (.const (.int .u32 (0))))⟩]) (.cond (.tmp 21) .skip (.exit 2))) (.block 3 (.seq (.reg [⟨(some 22), none, (.mv (.tmp 5))⟩, ⟨(some 23), none, (.bin .rem (.tmp 22) (.const (.int .u32 (10))))⟩, ⟨(some 24), none, (.conv .i64 (.tmp 23))⟩, ⟨(some 25), none, (.callf (.func 105) [(.tmp 24)])⟩, ⟨(some 26), none, (.mv (.tmp 6))⟩, ⟨(some 27), none, (.bin .add (.tmp 25) (.tmp 26))⟩, ⟨(some 6), none, (.mv (.tmp 27))⟩]) (.reg [⟨(some 28), none, (.mv (.tmp 5))⟩, ⟨(some 29), none, (.bin .quo (.tmp 28) (.const (.int .u32 (10))))⟩, ⟨(some 5), none, (.mv (.tmp 29))⟩]))))
abbrev c78_b2 : CC := (.seq (.seq (.reg [⟨(some 10), none, (.mv (.tmp 4))⟩, ⟨(some 11), none, (.bin .geq (.tmp 10) (.const (.int .i64 (0))))⟩]) (.cond (.tmp 11) .skip (.exit 0))) (.seq (.block 1 (.seq (.reg [⟨(some 14), none, (.mv (.tmp 3))⟩, ⟨(some 15), none, (.callf (.func 82) [(.tmp 14), (.const wStr)])⟩, ⟨(some 3), none, (.mv (.tmp 15))⟩]) (.seq (.reg [⟨(some 16), none, (.mv (.tmp 0))⟩, ⟨(some 17), none, (.mv (.tmp 4))⟩, ⟨(some 18), none, (.iaddr 1 none (.tmp 16) (.tmp 17))⟩, ⟨(some 19), none, (.load 1 false (.tmp 18))⟩, ⟨(some 5), none, (.mv (.tmp 19))⟩]) (.seq (.reg [⟨(some 6), none, (.mv (.const (.string ⟨#[]⟩)))⟩]) (.seq (.block 2 (.loop c78_b1)) c78_k3))))) c78_k2))
abbrev c78 : CC := (.seq (.reg [⟨(some 2), none, (.mv (.const (.string ⟨#[]⟩)))⟩]) (.seq (.reg [⟨(some 3), none, (.mv (.const (.string ⟨#[48]⟩)))⟩]) (.seq (.seq (.reg [⟨(some 7), none, (.mv (.tmp 0))⟩, ⟨(some 8), none, (.len false (.tmp 7))⟩, ⟨(some 9), none, (.bin .sub (.tmp 8) (.const (.int .i64 (1))))⟩, ⟨(some 4), none, (.mv (.tmp 9))⟩]) (.block 0 (.loop c78_b2))) c78_k1)))
theorem cc78 : ccode Tryd.prog [] (Tryd.f78.body.getD .skip) = some c78 := by kernel_rfl
theorem body78 : Tryd.f78.body = some (Tryd.f78.body.getD .skip) := rfl

theorem tof_C (a : Row) (ha : (osl a).length ≤ 10000000) : PureC Tryd.prog 78 [aN a] (.ret (aS (dec a.val))) := by
  refine pureC_of (rs := [(RV.tmp 2)]) Tryd.func78 (fun a w => Tryd.call78 a w) body78 cc78 (by kernel_rfl) ?_
  rw [Tryd.ntmps78]
  simp only [frs, Nat.reduceAdd, Nat.reduceSub]
  repeat (first | (with_reducible first | refine Way.imp ?_ | refine blk_o rfl ?_) | ((with_reducible refine WayR.imp (fun K hK => ?_)); simp (disch := first | omega | (simp only [dls]; omega)) only [std, reduceIte, reduceCtorEq, Int.reduceToNat, Nat.reduceAdd, Nat.reduceSub, Nat.reduceMul, Int.reduceAdd, Int.reduceSub, Int.reduceMul, Int.reduceNeg, fU, constAV_arr, cons_beq_nil, nil_beq_nil, lenAV_str, constAV_digStr, digList_len, constAV_wStr]; subst hK))
  refine awp_loop (fun (zz : Nat) => ⟨(aN a :: .junk :: aS [] :: aS (dec (val ((osl a).drop zz))) :: aI ((zz : Int) - 1) :: .junk :: .junk :: .junk :: .junk :: .junk :: .junk :: .junk :: .junk :: .junk :: .junk :: .junk :: .junk :: .junk :: .junk :: .junk :: .junk :: .junk :: .junk :: .junk :: .junk :: .junk :: .junk :: .junk :: .junk :: .junk :: .junk :: .junk :: .junk :: .junk :: .junk :: []), []⟩) (fun (zz : Nat) => zz ≤ (osl a).length) (fun (zz : Nat) => zz) ((osl a).length) ?hI7 (Fgt.head (Nat.le_refl _) [true, false, true, true, true] ?hT7 ?hH7) ?hB7
  case hT7 => first | (simp (disch := omega) only [hds, liveT, cleanAV, cleanCell, clean1, cleanBlk, reduceIte, Int.reduceSub, Int.reduceAdd, Int.reduceNeg, List.drop_length, val_nil, dec_nil]; done) | rfl
  case hH7 => first | (simp (disch := omega) only [hds, liveT, cleanAV, cleanCell, clean1, cleanBlk, reduceIte, Int.reduceSub, Int.reduceAdd, Int.reduceNeg, List.drop_length, val_nil, dec_nil]; done) | rfl
  · exact Nat.le_refl _
  intro k hk
  cases k with
  | zero =>
    have e : dec (val ((osl a).drop 0)) = dec a.val := rfl
    rw [e]
    repeat (first | (with_reducible first | refine Way.imp ?_ | refine blk_o rfl ?_) | ((with_reducible refine WayR.imp (fun K hK => ?_)); simp (disch := first | omega | (simp only [dls]; omega)) only [std, reduceIte, reduceCtorEq, Int.reduceToNat, Nat.reduceAdd, Nat.reduceSub, Nat.reduceMul, Int.reduceAdd, Int.reduceSub, Int.reduceMul, Int.reduceNeg, fU, constAV_arr, cons_beq_nil, nil_beq_nil, lenAV_str, constAV_digStr, digList_len, constAV_wStr]; subst hK))
    exact ⟨_, rfl, rfl⟩
  | succ k =>
    have hk1 : ((k + 1 : Nat) : Int) - 1 = (k : Int) := by omega
    have hv := val_drop (osl a) k (by omega)
    have hlt := (osl a)[k].toNat_lt
    have hl1 : (digits (val ((osl a).drop (k + 1)))).length ≤ 10000000 := Nat.le_trans (digits_len_le (val_lt _)) (by simp; omega)
    obtain ⟨s1, s2⟩ := short_of hl1 (by decide)
    have hmul := tmul_C (dec (val ((osl a).drop (k + 1)))) (dec 4294967296) (dec_dig _) (dec_dig _) (by omega) (by rw [dec_wbase]; decide)
    rw [tv_dec, tv_dec, dec_wbase] at hmul
    obtain ⟨x, hx⟩ : ∃ x, x = (osl a)[k] := ⟨_, rfl⟩
    have hxv : (osl a)[k].toNat = x.toNat := by rw [hx]
    rw [hxv] at hv hlt
    have hl2 : (digits (val ((osl a).drop (k + 1)) * 4294967296)).length ≤ 10000001 := by
      have h1 := digits_len_mul (val ((osl a).drop (k + 1))) 4294967296
      have h2 : (digits 4294967296).length ≤ 2 := digits_len_le (by decide)
      have h3 : (digits (val ((osl a).drop (k + 1)))).length ≤ (osl a).length - (k + 1) := digits_len_le (by
        have := val_lt ((osl a).drop (k + 1))
        simpa using this)
      omega
    obtain ⟨s3, s4⟩ := short_of hl2 (by decide)
    have hVk : val ((osl a).drop k) = val ((osl a).drop (k + 1)) * 4294967296 + x.toNat := by rw [hv]; omega
    generalize val ((osl a).drop (k + 1)) = H at *
    generalize hN : x.toNat = N at *
    repeat (first | (with_reducible first | refine Way.imp ?_ | refine blk_o rfl ?_) | ((with_reducible refine WayR.imp (fun K hK => ?_)); simp (disch := first | omega | (simp only [dls]; omega)) only [std, reduceIte, reduceCtorEq, Int.reduceToNat, Nat.reduceAdd, Nat.reduceSub, Nat.reduceMul, Int.reduceAdd, Int.reduceSub, Int.reduceMul, Int.reduceNeg, fU, constAV_arr, cons_beq_nil, nil_beq_nil, lenAV_str, constAV_digStr, digList_len, constAV_wStr, hk1, hxv]; subst hK) | refine zcA (hmul) rfl rfl rfl ?_)
    refine awp_loop (fun (zz : Nat × (List UInt8)) => ⟨(aN a :: .junk :: aS [] :: aS (dec (H * 4294967296)) :: aI k :: aU32 zz.1 :: aS zz.2 :: .junk :: .junk :: .junk :: .junk :: .junk :: .junk :: .junk :: .junk :: .junk :: .junk :: .junk :: .junk :: .junk :: .junk :: .junk :: .junk :: .junk :: .junk :: .junk :: .junk :: .junk :: .junk :: .junk :: .junk :: .junk :: .junk :: .junk :: .junk :: []), []⟩) (fun (zz : Nat × (List UInt8)) => zz.1 ≤ N ∧ (∀ c ∈ zz.2, isDig c) ∧ tv zz.2 + 10 ^ zz.2.length * zz.1 = N ∧ zz.2.length ≤ 11) (fun (zz : Nat × (List UInt8)) => zz.1) (N, []) ?hI8 (Fgt.head (Nat.le_refl _) [true, false, true, true, true, true, true] ?hT8 ?hH8) ?hB8
    case hT8 => first | (simp (disch := omega) only [hds, liveT, cleanAV, cleanCell, clean1, cleanBlk, reduceIte, Int.reduceSub, Int.reduceAdd, Int.reduceNeg]; done) | rfl
    case hH8 => first | (simp (disch := omega) only [hds, liveT, cleanAV, cleanCell, clean1, cleanBlk, reduceIte, Int.reduceSub, Int.reduceAdd, Int.reduceNeg]; done) | rfl
    · dsimp only; exact ⟨Nat.le_refl _, by simp, by simp [tv, rv], by simp⟩
    rintro ⟨n, u⟩ ⟨hn, hdig, hu, hul⟩
    dsimp only at hn hdig hu hul
    by_cases h0 : n = 0
    · have hcut := cut_C u hdig (by omega)
      rw [h0, Nat.mul_zero, Nat.add_zero] at hu
      rw [hu] at hcut
      have hNl : (digits N).length ≤ 1 := digits_len_le (by omega)
      obtain ⟨s5, s6⟩ := short_of hNl (by decide)
      have hadd := tadd_C (dec (H * 4294967296)) (dec N) (dec_dig _) (dec_dig _) (by omega) (by omega)
      rw [tv_dec, tv_dec, ← hVk] at hadd
      repeat (first | (with_reducible first | refine Way.imp ?_ | refine blk_o rfl ?_) | ((with_reducible refine WayR.imp (fun K hK => ?_)); simp (disch := first | omega | (simp only [dls]; omega)) only [std, reduceIte, reduceCtorEq, Int.reduceToNat, Nat.reduceAdd, Nat.reduceSub, Nat.reduceMul, Int.reduceAdd, Int.reduceSub, Int.reduceMul, Int.reduceNeg, fU, constAV_arr, cons_beq_nil, nil_beq_nil, lenAV_str, constAV_digStr, digList_len, constAV_wStr]; subst hK) | refine zcA (hcut) rfl rfl rfl ?_ | refine zcA (hadd) rfl rfl rfl ?_)
      refine ⟨(k), ?hI9, ?hM9, Fgt.head (Nat.le_refl _) [true, false, true, true, true] ?hT9 ?hH9⟩
      case hT9 => first | (simp (disch := omega) only [hds, liveT, cleanAV, cleanCell, clean1, cleanBlk, reduceIte, Int.reduceSub, Int.reduceAdd, Int.reduceNeg]; done) | rfl
      case hH9 => first | (simp (disch := omega) only [hds, liveT, cleanAV, cleanCell, clean1, cleanBlk, reduceIte, Int.reduceSub, Int.reduceAdd, Int.reduceNeg]; done) | rfl
      · omega
      · omega
    · have hul9 : u.length ≤ 9 := by
        refine Decidable.byContradiction fun h => ?_
        have h1 : 10 ^ u.length * 1 ≤ 10 ^ u.length * n := Nat.mul_le_mul_left _ (by omega)
        have h2 : (10 : Nat) ^ 10 ≤ 10 ^ u.length := Nat.pow_le_pow_right (by decide) (by omega)
        simp at h2
        omega
      have hdm : n % 10 < 10 := Nat.mod_lt _ (by decide)
      have hsg := sign_C _ hdm
      have hr : (n : Int).tmod 10 = ((n % 10 : Nat) : Int) := by rw [tmod_nn (by omega)]; simp
      have hq : (n : Int).tdiv 10 = ((n / 10 : Nat) : Int) := by rw [tdiv_nn (by omega)]; simp
      repeat (first | (with_reducible first | refine Way.imp ?_ | refine blk_o rfl ?_) | ((with_reducible refine WayR.imp (fun K hK => ?_)); simp (disch := first | omega | (simp only [dls]; omega)) only [std, reduceIte, reduceCtorEq, Int.reduceToNat, Nat.reduceAdd, Nat.reduceSub, Nat.reduceMul, Int.reduceAdd, Int.reduceSub, Int.reduceMul, Int.reduceNeg, fU, constAV_arr, cons_beq_nil, nil_beq_nil, lenAV_str, constAV_digStr, digList_len, constAV_wStr, hr, hq, wu32]; subst hK) | refine zcA (hsg) rfl rfl rfl ?_)
      refine ⟨(n / 10, chr (n % 10) :: u), ?hI10, ?hM10, Fgt.head (Nat.le_refl _) [true, false, true, true, true, true, true] ?hT10 ?hH10⟩
      case hT10 => first | (simp (disch := omega) only [hds, liveT, cleanAV, cleanCell, clean1, cleanBlk, reduceIte, Int.reduceSub, Int.reduceAdd, Int.reduceNeg]; done) | rfl
      case hH10 => first | (simp (disch := omega) only [hds, liveT, cleanAV, cleanCell, clean1, cleanBlk, reduceIte, Int.reduceSub, Int.reduceAdd, Int.reduceNeg]; done) | rfl
      · dsimp only
        refine ⟨by omega, ?_, ?_, by simp; omega⟩
        · intro c hc
          rcases List.mem_cons.1 hc with rfl | hc
          · exact chr_dig hdm
          · exact hdig c hc
        · rw [tv_cons, chr_val hdm, List.length_cons, Nat.pow_succ, Nat.mul_assoc, Nat.add_assoc, ← Nat.mul_add, Nat.mod_add_div]
          exact hu
      · dsimp only; omega
end Go.Proofs.YtdhkdnmefeeclaaDoor
