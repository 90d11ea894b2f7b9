/- Walks of offcutref05. -/
import Derived.Test.YtdhkdnmefeeclaaRows
import Derived.Test.YtdhkdnmefeeclaaA5
import Derived.Test.YtdhkdnmefeeclaaV3
set_option linter.unusedSimpArgs false
set_option linter.unusedVariables false
set_option linter.unnecessarySimpa false
set_option linter.unusedSimpArgs false
set_option linter.unusedVariables false
set_option maxRecDepth 100000
set_option maxHeartbeats 4000000
namespace Go.Proofs.Ytdhkdnmefeeclaa
open Go Go.Am Go.Proofs Go.RowKit Go.Off

theorem ints_R (a : List Int) (hl : a.length ≤ 1000000) (hb : ∀ n ∈ a, -9223372036854775808 ≤ n ∧ n ≤ 9223372036854775807) : PureC Try.prog 57 [.one (.c (encSl 1 fI (some a)))] (.ret (aV (rowO (a.map fun n : Int => rawQ (n : Rat))))) :=
  PureC.fresh_rowO ((ints_C a hl hb).to (by cases a <;> rfl))
theorem vadd_R (a b : VV) (n L : Nat) (ha : FitsV a n L) (hb : FitsV b n L) (hn : n ≤ 1000000) (hL : 1 ≤ L) (hL2 : L ≤ 1000000) : PureC Try.prog 43 [aV a, aV b] (.ret (aV (rowO ((addQ a b).map rawQ)))) :=
  PureC.fresh_rowO ((vadd_C a b n L ha hb hn hL hL2).to (by rw [List.map_map, List.isEmpty_map]; rfl))
theorem vscale_R (a : VV) (by' : RR) (n L : Nat) (ha : FitsV a n L) (hb : Fits by' L) (hn : n ≤ 1000000) (hL : 1 ≤ L) (hL2 : L ≤ 1000000) : PureC Try.prog 45 [aV a, aR by'] (.ret (aV (rowO ((scaleQ a by'.val).map rawQ)))) :=
  PureC.fresh_rowO ((vscale_C a by' n L ha hb hn hL hL2).to (by rw [List.map_map, List.isEmpty_map]; rfl))
theorem vsparse_R (a : VV) (n L : Nat) (ha : FitsV a n L) (hn : n ≤ 1000000) (hL2 : L ≤ 1000000) : PureC Try.prog 28 [aV a] (.ret (aT (rowO (sparseQ a)))) := PureC.fresh_rowO (vsparse_C a n L ha hn hL2)
theorem vtexts_R (a : VV) (n L : Nat) (ha : FitsV a n L) (hn : n ≤ 1000000) (hL2 : L ≤ 1000000) : PureC Try.prog 49 [aV a] (.ret (.one (.c (encSl 1 fS (rowO (textsQ a)))))) := PureC.fresh_rowO (vtexts_C a n L ha hn hL2)

/-- A row of fractions as the document has it. -/
def fD (q : Rat) : List CV := [.str (decZ q.num), .str (dec q.den)]
abbrev DV := Option (List Rat)
abbrev aD (x : DV) : AV := .one (.c (encSl 2 fD x))
def dAt (x : DV) (i : Nat) : Rat := (osl x).getD i 0
def dAtI (x : DV) (k : Int) : Rat := if 0 ≤ k then dAt x k.toNat else 0
theorem dAt_in {x : DV} {i : Nat} (h : i < (osl x).length) : dAt x i = (osl x)[i] := by
  simp only [dAt, List.getD_eq_getElem?_getD]; rw [List.getElem?_eq_getElem h]; rfl
theorem dAt_out {x : DV} {i : Nat} (h : (osl x).length ≤ i) : dAt x i = 0 := by
  simp only [dAt, List.getD_eq_getElem?_getD]; rw [List.getElem?_eq_none_iff.2 h]; rfl
theorem dec_one : dec 1 = [49] := by have h := dec_eq_one 1; simpa using h
theorem decZ_zero : decZ 0 = [48] := rfl
def zeroStr0 : Value := .string ⟨#[48]⟩

abbrev c100 : CC := (CC.seq (CC.reg [⟨(some 0), none, (COp.new 33 [(Value.string ⟨#[]⟩), (Value.string ⟨#[]⟩)])⟩]) (CC.seq (CC.reg [⟨(some 1), none, (COp.build [(Value.string ⟨#[]⟩), (Value.string ⟨#[]⟩)] [(0, (1, (Operand.const (Value.string ⟨#[48]⟩)))), (1, (1, (Operand.const (Value.string ⟨#[49]⟩))))])⟩, ⟨none, none, (COp.store 2 (Operand.tmp 0) (Operand.tmp 1))⟩]) CC.ret))
theorem cc100 : ccode Try.prog [] (Try.f100.body.getD .skip) = some c100 := by kernel_rfl
theorem body100 : Try.f100.body = some (Try.f100.body.getD .skip) := rfl

theorem dzero_C : PureC Try.prog 100 [] (.ret (aQ 0)) := by
  have h1 : decZ (0 : Rat).num = [48] := rfl
  have h2 : dec (0 : Rat).den = [49] := dec_one
  have e1 : constAV (Value.string ⟨#[48]⟩) = .one (.c (.str [48])) := rfl
  have e2 : constAV (Value.string ⟨#[49]⟩) = .one (.c (.str [49])) := rfl
  show PureC _ _ _ (.ret (.agg [.c (.str (decZ (0 : Rat).num)), .c (.str (dec (0 : Rat).den))]))
  rw [h1, h2]
  refine pureC_of (rs := [(RV.cell 0 2 true)]) Try.func100 (fun a w => Try.call100 a w) body100 cc100 (by kernel_rfl) ?_
  rw [Try.ntmps100]
  simp only [frs, Nat.reduceAdd, Nat.reduceSub]
  repeat (first | (with_reducible first | refine zw10 ?_ | refine zw1 ?_ | refine zw4 ?_ | refine zw18 ?_ | refine zw19 ?_ | refine zw11 ?_ | refine zw12 ?_ | refine zw14 ?_ | refine zw2 ?_ | refine zw5 ?_ | refine zw9 ?_ | refine zw13 ?_ | refine zw3 ?_ | refine zw6 ?_ | refine zw8 ?_ | refine zw15 ?_ | refine zw16 ?_ | refine zw17 ?_ | refine blk_o rfl ?_) | ((with_reducible first | refine zb1 mixed (fun K hK => ?_) | refine zb2 (fun K hK => ?_) | refine zb3 (fun K hK => ?_)); simp (disch := first | omega | (simp only [dls]; omega)) only [std, cev, cstep, St.ev, putT, AV.cells?, AV.int?, AV.bool?, AV.str?, readN, mkAV, putN, guardWant, bound, Value.oneCell', opO, putSt, reduceIte, reduceCtorEq, Int.reduceToNat, Nat.reduceAdd, Nat.reduceSub, Nat.reduceMul, Int.reduceAdd, Int.reduceSub, Int.reduceMul, Int.reduceNeg, fU, constAV_arr, cons_beq_nil, nil_beq_nil]; subst hK))
  exact ⟨_, rfl, rfl⟩

abbrev c38 : CC := (CC.seq (CC.reg [⟨(some 4), none, (COp.new 33 [(Value.string ⟨#[]⟩), (Value.string ⟨#[]⟩)])⟩]) (CC.seq (CC.seq (CC.reg [⟨(some 5), none, (COp.mv (Operand.tmp 1))⟩, ⟨(some 6), none, (COp.bin BinOp.lss (Operand.tmp 5) (Operand.const (Value.int IntKind.i64 (0))))⟩, ⟨(some 7), none, (COp.mv (Operand.tmp 6))⟩, ⟨(some 8), (some (7, false)), (COp.mv (Operand.tmp 1))⟩, ⟨(some 9), (some (7, false)), (COp.mv (Operand.tmp 0))⟩, ⟨(some 10), (some (7, false)), (COp.len false (Operand.tmp 9))⟩, ⟨(some 11), (some (7, false)), (COp.bin BinOp.geq (Operand.tmp 8) (Operand.tmp 10))⟩, ⟨(some 12), none, (COp.pick (Operand.tmp 7) (Operand.const (Value.bool true)) (Operand.tmp 11))⟩]) (CC.cond (Operand.tmp 12) (CC.seq (CC.reg [⟨(some 13), none, (COp.callf (Operand.func 100) [])⟩, ⟨none, none, (COp.store 2 (Operand.tmp 4) (Operand.tmp 13))⟩]) CC.ret) CC.skip)) (CC.seq (CC.reg [⟨(some 14), none, (COp.mv (Operand.tmp 0))⟩, ⟨(some 15), none, (COp.mv (Operand.tmp 1))⟩, ⟨(some 16), none, (COp.iaddr 2 none (Operand.tmp 14) (Operand.tmp 15))⟩, ⟨(some 17), none, (COp.load 2 true (Operand.tmp 16))⟩, ⟨none, none, (COp.store 2 (Operand.tmp 4) (Operand.tmp 17))⟩]) CC.ret)))
theorem cc38 : ccode Try.prog [] (Try.f38.body.getD .skip) = some c38 := by kernel_rfl
theorem body38 : Try.f38.body = some (Try.f38.body.getD .skip) := rfl

theorem dat_C (x : DV) (k : Int) : PureC Try.prog 38 [aD x, aI k] (.ret (aQ (dAtI x k))) := by
  have hz := dzero_C
  unfold dAtI
  by_cases h0 : 0 ≤ k
  · rw [if_pos h0]
    obtain ⟨m, rfl⟩ : ∃ m : Nat, k = (m : Int) := ⟨k.toNat, by omega⟩
    rw [Int.toNat_natCast]
    by_cases h : m < (osl x).length
    · rw [dAt_in h]
      refine pureC_of (rs := [(RV.cell 4 2 true)]) Try.func38 (fun a w => Try.call38 a w) body38 cc38 (by kernel_rfl) ?_
      rw [Try.ntmps38]
      simp only [frs, Nat.reduceAdd, Nat.reduceSub]
      repeat (first | (with_reducible first | refine zw10 ?_ | refine zw1 ?_ | refine zw4 ?_ | refine zw18 ?_ | refine zw19 ?_ | refine zw11 ?_ | refine zw12 ?_ | refine zw14 ?_ | refine zw2 ?_ | refine zw5 ?_ | refine zw9 ?_ | refine zw13 ?_ | refine zw3 ?_ | refine zw6 ?_ | refine zw8 ?_ | refine zw15 ?_ | refine zw16 ?_ | refine zw17 ?_ | refine blk_o rfl ?_) | ((with_reducible first | refine zb1 mixed (fun K hK => ?_) | refine zb2 (fun K hK => ?_) | refine zb3 (fun K hK => ?_)); simp (disch := first | omega | (simp only [dls]; omega)) only [std, cev, cstep, St.ev, putT, AV.cells?, AV.int?, AV.bool?, AV.str?, readN, mkAV, putN, guardWant, bound, Value.oneCell', opO, putSt, reduceIte, reduceCtorEq, Int.reduceToNat, Nat.reduceAdd, Nat.reduceSub, Nat.reduceMul, Int.reduceAdd, Int.reduceSub, Int.reduceMul, Int.reduceNeg, fU, constAV_arr, cons_beq_nil, nil_beq_nil, fD]; subst hK))
      exact ⟨_, rfl, rfl⟩
    · rw [dAt_out (by omega)]
      refine pureC_of (rs := [(RV.cell 4 2 true)]) Try.func38 (fun a w => Try.call38 a w) body38 cc38 (by kernel_rfl) ?_
      rw [Try.ntmps38]
      simp only [frs, Nat.reduceAdd, Nat.reduceSub]
      repeat (first | (with_reducible first | refine zw10 ?_ | refine zw1 ?_ | refine zw4 ?_ | refine zw18 ?_ | refine zw19 ?_ | refine zw11 ?_ | refine zw12 ?_ | refine zw14 ?_ | refine zw2 ?_ | refine zw5 ?_ | refine zw9 ?_ | refine zw13 ?_ | refine zw3 ?_ | refine zw6 ?_ | refine zw8 ?_ | refine zw15 ?_ | refine zw16 ?_ | refine zw17 ?_ | refine blk_o rfl ?_) | ((with_reducible first | refine zb1 mixed (fun K hK => ?_) | refine zb2 (fun K hK => ?_) | refine zb3 (fun K hK => ?_)); simp (disch := first | omega | (simp only [dls]; omega)) only [std, cev, cstep, St.ev, putT, AV.cells?, AV.int?, AV.bool?, AV.str?, readN, mkAV, putN, guardWant, bound, Value.oneCell', opO, putSt, reduceIte, reduceCtorEq, Int.reduceToNat, Nat.reduceAdd, Nat.reduceSub, Nat.reduceMul, Int.reduceAdd, Int.reduceSub, Int.reduceMul, Int.reduceNeg, fU, constAV_arr, cons_beq_nil, nil_beq_nil]; subst hK) | refine zcA (hz) rfl rfl rfl ?_)
      exact ⟨_, rfl, rfl⟩
  · rw [if_neg h0]
    refine pureC_of (rs := [(RV.cell 4 2 true)]) Try.func38 (fun a w => Try.call38 a w) body38 cc38 (by kernel_rfl) ?_
    rw [Try.ntmps38]
    simp only [frs, Nat.reduceAdd, Nat.reduceSub]
    repeat (first | (with_reducible first | refine zw10 ?_ | refine zw1 ?_ | refine zw4 ?_ | refine zw18 ?_ | refine zw19 ?_ | refine zw11 ?_ | refine zw12 ?_ | refine zw14 ?_ | refine zw2 ?_ | refine zw5 ?_ | refine zw9 ?_ | refine zw13 ?_ | refine zw3 ?_ | refine zw6 ?_ | refine zw8 ?_ | refine zw15 ?_ | refine zw16 ?_ | refine zw17 ?_ | refine blk_o rfl ?_) | ((with_reducible first | refine zb1 mixed (fun K hK => ?_) | refine zb2 (fun K hK => ?_) | refine zb3 (fun K hK => ?_)); simp (disch := first | omega | (simp only [dls]; omega)) only [std, cev, cstep, St.ev, putT, AV.cells?, AV.int?, AV.bool?, AV.str?, readN, mkAV, putN, guardWant, bound, Value.oneCell', opO, putSt, reduceIte, reduceCtorEq, Int.reduceToNat, Nat.reduceAdd, Nat.reduceSub, Nat.reduceMul, Int.reduceAdd, Int.reduceSub, Int.reduceMul, Int.reduceNeg, fU, constAV_arr, cons_beq_nil, nil_beq_nil]; subst hK) | refine zcA (hz) rfl rfl rfl ?_)
    exact ⟨_, rfl, rfl⟩

/-- A row whose fractions are short. -/
def FitsD (x : DV) (n L : Nat) : Prop := (osl x).length ≤ n ∧ ∀ q ∈ osl x, FitsQ q L
theorem FitsD.at {x : DV} {n L : Nat} (h : FitsD x n L) (hL : 1 ≤ L) (i : Nat) : FitsQ (dAt x i) L := by
  by_cases hi : i < (osl x).length
  · rw [dAt_in hi]; exact h.2 _ (List.getElem_mem hi)
  · rw [dAt_out (by omega)]; exact fitsQ_zero L hL
def ddotTo (x y : DV) (k : Nat) : Rat := (List.range k).foldl (fun s i => s + dAt x i * dAt y i) 0
def ddot (x y : DV) : Rat := ddotTo x y (min (osl x).length (osl y).length)
theorem ddotTo_succ (x y : DV) (k : Nat) : ddotTo x y (k + 1) = ddotTo x y k + dAt x k * dAt y k := by
  unfold ddotTo; rw [List.range_succ, List.foldl_append]; rfl
theorem fitsQ_ddot {x y : DV} {n L : Nat} (hx : FitsD x n L) (hy : FitsD y n L) (hL : 1 ≤ L) (k : Nat) : FitsQ (ddotTo x y k) (k * (2 * L + 1) + 1) := by
  induction k with
  | zero => rw [Nat.zero_mul]; exact fitsQ_zero _ (by omega)
  | succ k ih =>
    rw [ddotTo_succ]
    have := ih.add1 ((hx.at hL k).mul (hy.at hL k))
    exact this.mono (by rw [Nat.add_mul]; omega)

abbrev c40_k1 : CC := (CC.seq (CC.reg [⟨(some 31), none, (COp.load 2 true (Operand.tmp 5))⟩, ⟨none, none, (COp.store 2 (Operand.tmp 4) (Operand.tmp 31))⟩]) CC.ret)
abbrev c40_b1 : CC := (CC.seq (CC.seq (CC.reg [⟨(some 8), none, (COp.mv (Operand.tmp 6))⟩, ⟨(some 9), none, (COp.mv (Operand.tmp 0))⟩, ⟨(some 10), none, (COp.len false (Operand.tmp 9))⟩, ⟨(some 11), none, (COp.bin BinOp.lss (Operand.tmp 8) (Operand.tmp 10))⟩, ⟨(some 12), none, (COp.mv (Operand.tmp 11))⟩, ⟨(some 13), (some (12, true)), (COp.mv (Operand.tmp 6))⟩, ⟨(some 14), (some (12, true)), (COp.mv (Operand.tmp 1))⟩, ⟨(some 15), (some (12, true)), (COp.len false (Operand.tmp 14))⟩, ⟨(some 16), (some (12, true)), (COp.bin BinOp.lss (Operand.tmp 13) (Operand.tmp 15))⟩, ⟨(some 17), none, (COp.pick (Operand.tmp 12) (Operand.tmp 16) (Operand.const (Value.bool false)))⟩]) (CC.cond (Operand.tmp 17) CC.skip (CC.exit 0))) (CC.seq (CC.block 1 (CC.reg [⟨(some 20), none, (COp.load 2 true (Operand.tmp 5))⟩, ⟨(some 21), none, (COp.mv (Operand.tmp 0))⟩, ⟨(some 22), none, (COp.mv (Operand.tmp 6))⟩, ⟨(some 23), none, (COp.iaddr 2 none (Operand.tmp 21) (Operand.tmp 22))⟩, ⟨(some 24), none, (COp.load 2 true (Operand.tmp 23))⟩, ⟨(some 25), none, (COp.mv (Operand.tmp 1))⟩, ⟨(some 26), none, (COp.mv (Operand.tmp 6))⟩, ⟨(some 27), none, (COp.iaddr 2 none (Operand.tmp 25) (Operand.tmp 26))⟩, ⟨(some 28), none, (COp.load 2 true (Operand.tmp 27))⟩, ⟨(some 29), none, (COp.callf (Operand.func 37) [(Operand.tmp 24), (Operand.tmp 28)])⟩, ⟨(some 30), none, (COp.callf (Operand.func 36) [(Operand.tmp 20), (Operand.tmp 29)])⟩, ⟨none, none, (COp.store 2 (Operand.tmp 5) (Operand.tmp 30))⟩])) (CC.reg [⟨(some 18), none, (COp.mv (Operand.tmp 6))⟩, ⟨(some 19), none, (COp.bin BinOp.add (Operand.tmp 18) (Operand.const (Value.int IntKind.i64 (1))))⟩, ⟨(some 6), none, (COp.mv (Operand.tmp 19))⟩])))
abbrev c40 : CC := (CC.seq (CC.reg [⟨(some 4), none, (COp.new 33 [(Value.string ⟨#[]⟩), (Value.string ⟨#[]⟩)])⟩]) (CC.seq (CC.reg [⟨(some 7), none, (COp.callf (Operand.func 100) [])⟩, ⟨(some 5), none, (COp.new 33 [(Value.string ⟨#[]⟩), (Value.string ⟨#[]⟩)])⟩, ⟨none, none, (COp.store 2 (Operand.tmp 5) (Operand.tmp 7))⟩]) (CC.seq (CC.seq (CC.reg [⟨(some 6), none, (COp.mv (Operand.const (Value.int IntKind.i64 (0))))⟩]) (CC.block 0 (CC.loop c40_b1))) c40_k1)))
theorem cc40 : ccode Try.prog [] (Try.f40.body.getD .skip) = some c40 := by kernel_rfl
theorem body40 : Try.f40.body = some (Try.f40.body.getD .skip) := rfl

theorem ddot_C (x y : DV) (n L : Nat) (hx : FitsD x n L) (hy : FitsD y n L) (hn : n ≤ 1000) (hL : 1 ≤ L) (hL2 : L ≤ 1000) : PureC Try.prog 40 [aD x, aD y] (.ret (aQ (ddot x y))) := by
  have hx1 := hx.1
  have hy1 := hy.1
  have hz := dzero_C
  unfold ddot
  refine pureC_of (rs := [(RV.cell 4 2 true)]) Try.func40 (fun a w => Try.call40 a w) body40 cc40 (by kernel_rfl) ?_
  rw [Try.ntmps40]
  simp only [frs, Nat.reduceAdd, Nat.reduceSub]
  repeat (first | (with_reducible first | refine zw10 ?_ | refine zw1 ?_ | refine zw4 ?_ | refine zw18 ?_ | refine zw19 ?_ | refine zw11 ?_ | refine zw12 ?_ | refine zw14 ?_ | refine zw2 ?_ | refine zw5 ?_ | refine zw9 ?_ | refine zw13 ?_ | refine zw3 ?_ | refine zw6 ?_ | refine zw8 ?_ | refine zw15 ?_ | refine zw16 ?_ | refine zw17 ?_ | refine blk_o rfl ?_) | ((with_reducible first | refine zb1 mixed (fun K hK => ?_) | refine zb2 (fun K hK => ?_) | refine zb3 (fun K hK => ?_)); simp (disch := first | omega | (simp only [dls]; omega)) only [std, cev, cstep, St.ev, putT, AV.cells?, AV.int?, AV.bool?, AV.str?, readN, mkAV, putN, guardWant, bound, Value.oneCell', opO, putSt, reduceIte, reduceCtorEq, Int.reduceToNat, Nat.reduceAdd, Nat.reduceSub, Nat.reduceMul, Int.reduceAdd, Int.reduceSub, Int.reduceMul, Int.reduceNeg, fU, constAV_arr, cons_beq_nil, nil_beq_nil]; subst hK) | refine zcA (hz) rfl rfl rfl ?_)
  refine awp_loop (fun (zz : Nat) => ⟨(aD x :: aD y :: .junk :: .junk :: .one (.ptr 0 0 0 0) :: .one (.ptr 1 0 0 0) :: aI zz :: .junk :: .junk :: .junk :: .junk :: .junk :: .junk :: .junk :: .junk :: .junk :: .junk :: .junk :: .junk :: .junk :: .junk :: .junk :: .junk :: .junk :: .junk :: .junk :: .junk :: .junk :: .junk :: .junk :: .junk :: .junk :: []), [⟨0, 33, 2, [[.c (.val (.string ⟨#[]⟩)), .c (.val (.string ⟨#[]⟩))]], true, true⟩, ⟨0, 33, 2, [[.c (.str (decZ (ddotTo x y zz).num)), .c (.str (dec (ddotTo x y zz).den))]], true, true⟩]⟩) (fun (zz : Nat) => zz ≤ min (osl x).length (osl y).length) (fun (zz : Nat) => min (osl x).length (osl y).length - zz) (0) ?hI1 (Fgt.head (Nat.zero_le 2) [true, true, false, false, true, true, true] ?hT1 ?hH1) ?hB1
  case hT1 => first | (simp (disch := omega) only [hds, liveT, cleanAV, cleanCell, clean1, cleanBlk, reduceIte, Int.reduceSub, Int.reduceAdd, Int.reduceNeg]; done) | rfl
  case hH1 => first | (simp (disch := omega) only [hds, liveT, cleanAV, cleanCell, clean1, cleanBlk, reduceIte, Int.reduceSub, Int.reduceAdd, Int.reduceNeg]; done) | rfl
  · exact Nat.zero_le _
  intro i hi
  by_cases h1 : i < (osl x).length
  · by_cases h2 : i < (osl y).length
    · have fs := fitsQ_ddot hx hy hL i
      have hiL : i * (2 * L + 1) ≤ 1000 * 2001 := Nat.mul_le_mul (by omega) (by omega)
      have fx := hx.at hL i
      have fy := hy.at hL i
      have hm := qmul_C (dAt x i) (dAt y i) (fx.mono (by omega)) (fy.mono (by omega))
      have had := qadd_C (ddotTo x y i) (dAt x i * dAt y i) (fs.mono (by omega)) ((fx.mul fy).mono (by omega))
      rw [← ddotTo_succ] at had
      rw [dAt_in h1, dAt_in h2] at hm had
      generalize (osl x)[i] * (osl y)[i] = pr at hm had
      generalize ddotTo x y i = sr at *
      repeat (first | (with_reducible first | refine zw10 ?_ | refine zw1 ?_ | refine zw4 ?_ | refine zw18 ?_ | refine zw19 ?_ | refine zw11 ?_ | refine zw12 ?_ | refine zw14 ?_ | refine zw2 ?_ | refine zw5 ?_ | refine zw9 ?_ | refine zw13 ?_ | refine zw3 ?_ | refine zw6 ?_ | refine zw8 ?_ | refine zw15 ?_ | refine zw16 ?_ | refine zw17 ?_ | refine blk_o rfl ?_) | ((with_reducible first | refine zb1 mixed (fun K hK => ?_) | refine zb2 (fun K hK => ?_) | refine zb3 (fun K hK => ?_)); simp (disch := first | omega | (simp only [dls]; omega)) only [std, cev, cstep, St.ev, putT, AV.cells?, AV.int?, AV.bool?, AV.str?, readN, mkAV, putN, guardWant, bound, Value.oneCell', opO, putSt, reduceIte, reduceCtorEq, Int.reduceToNat, Nat.reduceAdd, Nat.reduceSub, Nat.reduceMul, Int.reduceAdd, Int.reduceSub, Int.reduceMul, Int.reduceNeg, fU, constAV_arr, cons_beq_nil, nil_beq_nil, fD]; subst hK) | refine zcA (hm) rfl rfl rfl ?_ | refine zcA (had) rfl rfl rfl ?_)
      refine ⟨(i + 1), ?hI2, ?hM2, Fgt.head (Nat.zero_le 2) [true, true, false, false, true, true, true] ?hT2 ?hH2⟩
      case hT2 => first | (simp (disch := omega) only [hds, liveT, cleanAV, cleanCell, clean1, cleanBlk, reduceIte, Int.reduceSub, Int.reduceAdd, Int.reduceNeg]; done) | rfl
      case hH2 => first | (simp (disch := omega) only [hds, liveT, cleanAV, cleanCell, clean1, cleanBlk, reduceIte, Int.reduceSub, Int.reduceAdd, Int.reduceNeg]; done) | rfl
      · show i + 1 ≤ _; omega
      · show min (osl x).length (osl y).length - (i + 1) < min (osl x).length (osl y).length - i; omega
    · have him : i = min (osl x).length (osl y).length := by omega
      rw [← him]
      repeat (first | (with_reducible first | refine zw10 ?_ | refine zw1 ?_ | refine zw4 ?_ | refine zw18 ?_ | refine zw19 ?_ | refine zw11 ?_ | refine zw12 ?_ | refine zw14 ?_ | refine zw2 ?_ | refine zw5 ?_ | refine zw9 ?_ | refine zw13 ?_ | refine zw3 ?_ | refine zw6 ?_ | refine zw8 ?_ | refine zw15 ?_ | refine zw16 ?_ | refine zw17 ?_ | refine blk_o rfl ?_) | ((with_reducible first | refine zb1 mixed (fun K hK => ?_) | refine zb2 (fun K hK => ?_) | refine zb3 (fun K hK => ?_)); simp (disch := first | omega | (simp only [dls]; omega)) only [std, cev, cstep, St.ev, putT, AV.cells?, AV.int?, AV.bool?, AV.str?, readN, mkAV, putN, guardWant, bound, Value.oneCell', opO, putSt, reduceIte, reduceCtorEq, Int.reduceToNat, Nat.reduceAdd, Nat.reduceSub, Nat.reduceMul, Int.reduceAdd, Int.reduceSub, Int.reduceMul, Int.reduceNeg, fU, constAV_arr, cons_beq_nil, nil_beq_nil]; subst hK))
      exact ⟨_, rfl, rfl⟩
  · have him : i = min (osl x).length (osl y).length := by omega
    rw [← him]
    repeat (first | (with_reducible first | refine zw10 ?_ | refine zw1 ?_ | refine zw4 ?_ | refine zw18 ?_ | refine zw19 ?_ | refine zw11 ?_ | refine zw12 ?_ | refine zw14 ?_ | refine zw2 ?_ | refine zw5 ?_ | refine zw9 ?_ | refine zw13 ?_ | refine zw3 ?_ | refine zw6 ?_ | refine zw8 ?_ | refine zw15 ?_ | refine zw16 ?_ | refine zw17 ?_ | refine blk_o rfl ?_) | ((with_reducible first | refine zb1 mixed (fun K hK => ?_) | refine zb2 (fun K hK => ?_) | refine zb3 (fun K hK => ?_)); simp (disch := first | omega | (simp only [dls]; omega)) only [std, cev, cstep, St.ev, putT, AV.cells?, AV.int?, AV.bool?, AV.str?, readN, mkAV, putN, guardWant, bound, Value.oneCell', opO, putSt, reduceIte, reduceCtorEq, Int.reduceToNat, Nat.reduceAdd, Nat.reduceSub, Nat.reduceMul, Int.reduceAdd, Int.reduceSub, Int.reduceMul, Int.reduceNeg, fU, constAV_arr, cons_beq_nil, nil_beq_nil]; subst hK))
    exact ⟨_, rfl, rfl⟩

theorem encB_snoc_D (l : List Rat) (q : Rat) : encB fD l ++ [[Cell.c (.str (decZ q.num)), Cell.c (.str (dec q.den))]] = encB fD (l ++ [q]) := by simp [encB, fD]
def daddTo (x y : DV) (k : Nat) : List Rat := (List.range k).map fun i => dAt x i + dAt y i
def dadd (x y : DV) : List Rat := daddTo x y (max (osl x).length (osl y).length)

abbrev c44_k1 : CC := (CC.seq (CC.reg [⟨(some 29), none, (COp.mv (Operand.tmp 5))⟩, ⟨(some 4), none, (COp.mv (Operand.tmp 29))⟩]) CC.ret)
abbrev c44_b1 : CC := (CC.seq (CC.seq (CC.reg [⟨(some 7), none, (COp.mv (Operand.tmp 6))⟩, ⟨(some 8), none, (COp.mv (Operand.tmp 0))⟩, ⟨(some 9), none, (COp.len false (Operand.tmp 8))⟩, ⟨(some 10), none, (COp.bin BinOp.lss (Operand.tmp 7) (Operand.tmp 9))⟩, ⟨(some 11), none, (COp.mv (Operand.tmp 10))⟩, ⟨(some 12), (some (11, false)), (COp.mv (Operand.tmp 6))⟩, ⟨(some 13), (some (11, false)), (COp.mv (Operand.tmp 1))⟩, ⟨(some 14), (some (11, false)), (COp.len false (Operand.tmp 13))⟩, ⟨(some 15), (some (11, false)), (COp.bin BinOp.lss (Operand.tmp 12) (Operand.tmp 14))⟩, ⟨(some 16), none, (COp.pick (Operand.tmp 11) (Operand.const (Value.bool true)) (Operand.tmp 15))⟩]) (CC.cond (Operand.tmp 16) CC.skip (CC.exit 0))) (CC.seq (CC.block 1 (CC.reg [⟨(some 19), none, (COp.mv (Operand.tmp 5))⟩, ⟨(some 20), none, (COp.mv (Operand.tmp 0))⟩, ⟨(some 21), none, (COp.mv (Operand.tmp 6))⟩, ⟨(some 22), none, (COp.callf (Operand.func 38) [(Operand.tmp 20), (Operand.tmp 21)])⟩, ⟨(some 23), none, (COp.mv (Operand.tmp 1))⟩, ⟨(some 24), none, (COp.mv (Operand.tmp 6))⟩, ⟨(some 25), none, (COp.callf (Operand.func 38) [(Operand.tmp 23), (Operand.tmp 24)])⟩, ⟨(some 26), none, (COp.callf (Operand.func 36) [(Operand.tmp 22), (Operand.tmp 25)])⟩, ⟨(some 27), none, (COp.mkrow 33 2 [(Operand.tmp 26)])⟩, ⟨(some 28), none, (COp.append 33 2 32 (Operand.tmp 19) (Operand.tmp 27))⟩, ⟨(some 5), none, (COp.mv (Operand.tmp 28))⟩])) (CC.reg [⟨(some 17), none, (COp.mv (Operand.tmp 6))⟩, ⟨(some 18), none, (COp.bin BinOp.add (Operand.tmp 17) (Operand.const (Value.int IntKind.i64 (1))))⟩, ⟨(some 6), none, (COp.mv (Operand.tmp 18))⟩])))
abbrev c44 : CC := (CC.seq (CC.reg [⟨(some 4), none, (COp.mv (Operand.const (Value.slice none 0 0)))⟩]) (CC.seq (CC.reg [⟨(some 5), none, (COp.mv (Operand.const (Value.slice none 0 0)))⟩]) (CC.seq (CC.seq (CC.reg [⟨(some 6), none, (COp.mv (Operand.const (Value.int IntKind.i64 (0))))⟩]) (CC.block 0 (CC.loop c44_b1))) c44_k1)))
theorem cc44 : ccode Try.prog [] (Try.f44.body.getD .skip) = some c44 := by kernel_rfl
theorem body44 : Try.f44.body = some (Try.f44.body.getD .skip) := rfl

theorem dadd_C (x y : DV) (n L : Nat) (hx : FitsD x n L) (hy : FitsD y n L) (hn : n ≤ 1000) (hL : 1 ≤ L) (hL2 : L ≤ 1000) : PureC Try.prog 44 [aD x, aD y] (.ret (aD (rowO (dadd x y)))) := by
  have hx1 := hx.1
  have hy1 := hy.1
  refine PureC.fresh_rowO (ty := 33) ?_
  unfold dadd
  obtain ⟨m, hm⟩ : ∃ m, m = max (osl x).length (osl y).length := ⟨_, rfl⟩
  rw [← hm]
  refine pureC_of (rs := [(RV.tmp 4)]) Try.func44 (fun a w => Try.call44 a w) body44 cc44 (by kernel_rfl) ?_
  rw [Try.ntmps44]
  simp only [frs, Nat.reduceAdd, Nat.reduceSub]
  repeat (first | (with_reducible first | refine zw10 ?_ | refine zw1 ?_ | refine zw4 ?_ | refine zw18 ?_ | refine zw19 ?_ | refine zw11 ?_ | refine zw12 ?_ | refine zw14 ?_ | refine zw2 ?_ | refine zw5 ?_ | refine zw9 ?_ | refine zw13 ?_ | refine zw3 ?_ | refine zw6 ?_ | refine zw8 ?_ | refine zw15 ?_ | refine zw16 ?_ | refine zw17 ?_ | refine blk_o rfl ?_) | ((with_reducible first | refine zb1 mixed (fun K hK => ?_) | refine zb2 (fun K hK => ?_) | refine zb3 (fun K hK => ?_)); simp (disch := first | omega | (simp only [dls]; omega)) only [std, cev, cstep, St.ev, putT, AV.cells?, AV.int?, AV.bool?, AV.str?, readN, mkAV, putN, guardWant, bound, Value.oneCell', opO, putSt, reduceIte, reduceCtorEq, Int.reduceToNat, Nat.reduceAdd, Nat.reduceSub, Nat.reduceMul, Int.reduceAdd, Int.reduceSub, Int.reduceMul, Int.reduceNeg, fU, constAV_arr, cons_beq_nil, nil_beq_nil]; subst hK))
  refine AWp.fgt ?_ (Fgt.openNil (i := 5) rfl 33 2)
  simp only [List.set_cons_succ, List.set_cons_zero, List.length_nil, List.length_cons, List.nil_append, List.cons_append, Nat.reduceAdd]
  refine awp_loop (fun (zz : Nat × (List Rat) × Nat × Bool) => ⟨(aD x :: aD y :: .junk :: .junk :: .one (.c (.val (.slice none 0 0))) :: .one (.own 0 zz.2.2.1) :: aI zz.1 :: .junk :: .junk :: .junk :: .junk :: .junk :: .junk :: .junk :: .junk :: .junk :: .junk :: .junk :: .junk :: .junk :: .junk :: .junk :: .junk :: .junk :: .junk :: .junk :: .junk :: .junk :: .junk :: .junk :: []), [⟨zz.2.2.1, 33, 2, encB fD zz.2.1, true, zz.2.2.2⟩]⟩) (fun (zz : Nat × (List Rat) × Nat × Bool) => zz.1 ≤ m ∧ zz.2.1 = daddTo x y zz.1 ∧ zz.2.2.2 = !zz.2.1.isEmpty) (fun (zz : Nat × (List Rat) × Nat × Bool) => m - zz.1) (0, [], 0, false) ?hI3 (Fgt.head (Nat.zero_le 1) [true, true, false, false, true, true, true] ?hT3 ?hH3) ?hB3
  case hT3 => first | (simp (disch := omega) only [hds, liveT, cleanAV, cleanCell, clean1, cleanBlk, reduceIte, Int.reduceSub, Int.reduceAdd, Int.reduceNeg, encB_nil]; done) | rfl
  case hH3 => first | (simp (disch := omega) only [hds, liveT, cleanAV, cleanCell, clean1, cleanBlk, reduceIte, Int.reduceSub, Int.reduceAdd, Int.reduceNeg, encB_nil]; done) | rfl
  · dsimp only; exact ⟨by omega, rfl, rfl⟩
  rintro ⟨i, out, v, nn⟩ ⟨hi, ho, hnn⟩
  dsimp only at hi ho hnn
  have hol : out.length = i := by rw [ho]; simp [daddTo]
  have hnx : daddTo x y (i + 1) = daddTo x y i ++ [dAt x i + dAt y i] := by unfold daddTo; rw [List.range_succ, List.map_append]; rfl
  have c1 := dat_C x i
  have c2 := dat_C y i
  unfold dAtI at c1 c2
  rw [if_pos (by omega), Int.toNat_natCast] at c1 c2
  have had := qadd_C (dAt x i) (dAt y i) ((hx.at hL i).mono (by omega)) ((hy.at hL i).mono (by omega))
  by_cases him : i = m
  · have g1 : (osl x).length ≤ i := by omega
    have g2 : (osl y).length ≤ i := by omega
    repeat (first | (with_reducible first | refine zw10 ?_ | refine zw1 ?_ | refine zw4 ?_ | refine zw18 ?_ | refine zw19 ?_ | refine zw11 ?_ | refine zw12 ?_ | refine zw14 ?_ | refine zw2 ?_ | refine zw5 ?_ | refine zw9 ?_ | refine zw13 ?_ | refine zw3 ?_ | refine zw6 ?_ | refine zw8 ?_ | refine zw15 ?_ | refine zw16 ?_ | refine zw17 ?_ | refine blk_o rfl ?_) | ((with_reducible first | refine zb1 mixed (fun K hK => ?_) | refine zb2 (fun K hK => ?_) | refine zb3 (fun K hK => ?_)); simp (disch := first | omega | (simp only [dls]; omega)) only [std, cev, cstep, St.ev, putT, AV.cells?, AV.int?, AV.bool?, AV.str?, readN, mkAV, putN, guardWant, bound, Value.oneCell', opO, putSt, reduceIte, reduceCtorEq, Int.reduceToNat, Nat.reduceAdd, Nat.reduceSub, Nat.reduceMul, Int.reduceAdd, Int.reduceSub, Int.reduceMul, Int.reduceNeg, fU, constAV_arr, cons_beq_nil, nil_beq_nil]; subst hK))
    refine ⟨_, rfl, ?_⟩
    rw [← him, ← ho, ← hnn]
    exact Ends.fresh_enc rfl
  · have fin : True := trivial
    by_cases h1 : i < (osl x).length
    · repeat (first | (with_reducible first | refine zw10 ?_ | refine zw1 ?_ | refine zw4 ?_ | refine zw18 ?_ | refine zw19 ?_ | refine zw11 ?_ | refine zw12 ?_ | refine zw14 ?_ | refine zw2 ?_ | refine zw5 ?_ | refine zw9 ?_ | refine zw13 ?_ | refine zw3 ?_ | refine zw6 ?_ | refine zw8 ?_ | refine zw15 ?_ | refine zw16 ?_ | refine zw17 ?_ | refine blk_o rfl ?_) | ((with_reducible first | refine zb1 mixed (fun K hK => ?_) | refine zb2 (fun K hK => ?_) | refine zb3 (fun K hK => ?_)); simp (disch := first | omega | (simp only [dls]; omega)) only [std, cev, cstep, St.ev, putT, AV.cells?, AV.int?, AV.bool?, AV.str?, readN, mkAV, putN, guardWant, bound, Value.oneCell', opO, putSt, reduceIte, reduceCtorEq, Int.reduceToNat, Nat.reduceAdd, Nat.reduceSub, Nat.reduceMul, Int.reduceAdd, Int.reduceSub, Int.reduceMul, Int.reduceNeg, fU, constAV_arr, cons_beq_nil, nil_beq_nil]; subst hK) | refine zcA (c1) rfl rfl rfl ?_ | refine zcA (c2) rfl rfl rfl ?_ | refine zcA (had) rfl rfl rfl ?_)
      refine ⟨(i + 1, out ++ [dAt x i + dAt y i], v + 1, true), ?hI4, ?hM4, Fgt.head (Nat.zero_le 1) [true, true, false, false, true, true, true] ?hT4 ?hH4⟩
      case hT4 => first | (simp (disch := omega) only [hds, liveT, cleanAV, cleanCell, clean1, cleanBlk, reduceIte, Int.reduceSub, Int.reduceAdd, Int.reduceNeg, encB_snoc_D, List.isEmpty_cons, Bool.or_true, Bool.not_false]; done) | rfl
      case hH4 => first | (simp (disch := omega) only [hds, liveT, cleanAV, cleanCell, clean1, cleanBlk, reduceIte, Int.reduceSub, Int.reduceAdd, Int.reduceNeg, encB_snoc_D, List.isEmpty_cons, Bool.or_true, Bool.not_false]; done) | rfl
      · dsimp only
        exact ⟨by omega, by rw [ho, hnx], by simp⟩
      · dsimp only; omega
    · have h2 : i < (osl y).length := by omega
      repeat (first | (with_reducible first | refine zw10 ?_ | refine zw1 ?_ | refine zw4 ?_ | refine zw18 ?_ | refine zw19 ?_ | refine zw11 ?_ | refine zw12 ?_ | refine zw14 ?_ | refine zw2 ?_ | refine zw5 ?_ | refine zw9 ?_ | refine zw13 ?_ | refine zw3 ?_ | refine zw6 ?_ | refine zw8 ?_ | refine zw15 ?_ | refine zw16 ?_ | refine zw17 ?_ | refine blk_o rfl ?_) | ((with_reducible first | refine zb1 mixed (fun K hK => ?_) | refine zb2 (fun K hK => ?_) | refine zb3 (fun K hK => ?_)); simp (disch := first | omega | (simp only [dls]; omega)) only [std, cev, cstep, St.ev, putT, AV.cells?, AV.int?, AV.bool?, AV.str?, readN, mkAV, putN, guardWant, bound, Value.oneCell', opO, putSt, reduceIte, reduceCtorEq, Int.reduceToNat, Nat.reduceAdd, Nat.reduceSub, Nat.reduceMul, Int.reduceAdd, Int.reduceSub, Int.reduceMul, Int.reduceNeg, fU, constAV_arr, cons_beq_nil, nil_beq_nil]; subst hK) | refine zcA (c1) rfl rfl rfl ?_ | refine zcA (c2) rfl rfl rfl ?_ | refine zcA (had) rfl rfl rfl ?_)
      refine ⟨(i + 1, out ++ [dAt x i + dAt y i], v + 1, true), ?hI5, ?hM5, Fgt.head (Nat.zero_le 1) [true, true, false, false, true, true, true] ?hT5 ?hH5⟩
      case hT5 => first | (simp (disch := omega) only [hds, liveT, cleanAV, cleanCell, clean1, cleanBlk, reduceIte, Int.reduceSub, Int.reduceAdd, Int.reduceNeg, encB_snoc_D, List.isEmpty_cons, Bool.or_true, Bool.not_false]; done) | rfl
      case hH5 => first | (simp (disch := omega) only [hds, liveT, cleanAV, cleanCell, clean1, cleanBlk, reduceIte, Int.reduceSub, Int.reduceAdd, Int.reduceNeg, encB_snoc_D, List.isEmpty_cons, Bool.or_true, Bool.not_false]; done) | rfl
      · dsimp only
        exact ⟨by omega, by rw [ho, hnx], by simp⟩
      · dsimp only; omega

end Go.Proofs.Ytdhkdnmefeeclaa
set_option linter.unusedSimpArgs false
set_option linter.unusedVariables false
set_option maxRecDepth 100000
set_option maxHeartbeats 4000000
namespace Go.Proofs.Ytdhkdnmefeeclaa
open Go Go.Am Go.Proofs Go.RowKit Go.Off

def shortR (r : RR) : Bool := decide ((osl r.size).length ≤ 3) && decide ((osl r.den).length ≤ 3)
theorem shortR_fits {r : RR} (h : shortR r = true) : Fits r 3 := by
  simp only [shortR, Bool.and_eq_true, decide_eq_true_eq] at h
  exact h
def fewTo (a : VV) (k : Nat) : Bool := (List.range k).all fun i => shortR (rAt a i)
def fewB (a : VV) : Bool := fewTo a (min (osl a).length 9) && decide ((osl a).length ≤ 8)
theorem fewTo_succ (a : VV) (k : Nat) : fewTo a (k + 1) = (fewTo a k && shortR (rAt a k)) := by
  unfold fewTo; rw [List.range_succ, List.all_append]; simp
theorem fewTo_false {a : VV} {k m : Nat} (hk : k < m) (h : shortR (rAt a k) = false) : fewTo a m = false := by
  unfold fewTo
  rw [List.all_eq_false]
  exact ⟨k, List.mem_range.2 hk, by simp [h]⟩
theorem fewB_fits {a : VV} (h : fewB a = true) : FitsV a 8 3 := by
  simp only [fewB, Bool.and_eq_true, decide_eq_true_eq] at h
  refine ⟨h.2, fun r hr => ?_⟩
  obtain ⟨i, hi, rfl⟩ := List.getElem_of_mem hr
  have := List.all_eq_true.1 h.1 i (List.mem_range.2 (by omega))
  rw [rAt_in hi] at this
  exact shortR_fits this

abbrev c26_k1 : CC := (CC.seq (CC.reg [⟨(some 31), none, (COp.mv (Operand.tmp 0))⟩, ⟨(some 32), none, (COp.len false (Operand.tmp 31))⟩, ⟨(some 33), none, (COp.bin BinOp.leq (Operand.tmp 32) (Operand.const (Value.int IntKind.i64 (8))))⟩, ⟨(some 2), none, (COp.mv (Operand.tmp 33))⟩]) CC.ret)
abbrev c26_b1 : CC := (CC.seq (CC.seq (CC.reg [⟨(some 4), none, (COp.mv (Operand.tmp 3))⟩, ⟨(some 5), none, (COp.mv (Operand.tmp 0))⟩, ⟨(some 6), none, (COp.len false (Operand.tmp 5))⟩, ⟨(some 7), none, (COp.bin BinOp.lss (Operand.tmp 4) (Operand.tmp 6))⟩, ⟨(some 8), none, (COp.mv (Operand.tmp 7))⟩, ⟨(some 9), (some (8, true)), (COp.mv (Operand.tmp 3))⟩, ⟨(some 10), (some (8, true)), (COp.bin BinOp.leq (Operand.tmp 9) (Operand.const (Value.int IntKind.i64 (8))))⟩, ⟨(some 11), none, (COp.pick (Operand.tmp 8) (Operand.tmp 10) (Operand.const (Value.bool false)))⟩]) (CC.cond (Operand.tmp 11) CC.skip (CC.exit 0))) (CC.seq (CC.block 1 (CC.seq (CC.reg [⟨(some 14), none, (COp.mv (Operand.tmp 0))⟩, ⟨(some 15), none, (COp.mv (Operand.tmp 3))⟩, ⟨(some 16), none, (COp.iaddr 3 none (Operand.tmp 14) (Operand.tmp 15))⟩, ⟨(some 17), none, (COp.faddr 0 (Operand.tmp 16))⟩, ⟨(some 18), none, (COp.faddr 1 (Operand.tmp 17))⟩, ⟨(some 19), none, (COp.load 1 false (Operand.tmp 18))⟩, ⟨(some 20), none, (COp.len false (Operand.tmp 19))⟩, ⟨(some 21), none, (COp.bin BinOp.gtr (Operand.tmp 20) (Operand.const (Value.int IntKind.i64 (3))))⟩, ⟨(some 22), none, (COp.mv (Operand.tmp 21))⟩, ⟨(some 23), (some (22, false)), (COp.mv (Operand.tmp 0))⟩, ⟨(some 24), (some (22, false)), (COp.mv (Operand.tmp 3))⟩, ⟨(some 25), (some (22, false)), (COp.iaddr 3 none (Operand.tmp 23) (Operand.tmp 24))⟩, ⟨(some 26), (some (22, false)), (COp.faddr 2 (Operand.tmp 25))⟩, ⟨(some 27), (some (22, false)), (COp.load 1 false (Operand.tmp 26))⟩, ⟨(some 28), (some (22, false)), (COp.len false (Operand.tmp 27))⟩, ⟨(some 29), (some (22, false)), (COp.bin BinOp.gtr (Operand.tmp 28) (Operand.const (Value.int IntKind.i64 (3))))⟩, ⟨(some 30), none, (COp.pick (Operand.tmp 22) (Operand.const (Value.bool true)) (Operand.tmp 29))⟩]) (CC.cond (Operand.tmp 30) (CC.seq (CC.reg [⟨(some 2), none, (COp.mv (Operand.const (Value.bool false)))⟩]) CC.ret) CC.skip))) (CC.reg [⟨(some 12), none, (COp.mv (Operand.tmp 3))⟩, ⟨(some 13), none, (COp.bin BinOp.add (Operand.tmp 12) (Operand.const (Value.int IntKind.i64 (1))))⟩, ⟨(some 3), none, (COp.mv (Operand.tmp 13))⟩])))
abbrev c26 : CC := (CC.seq (CC.reg [⟨(some 2), none, (COp.mv (Operand.const (Value.bool false)))⟩]) (CC.seq (CC.seq (CC.reg [⟨(some 3), none, (COp.mv (Operand.const (Value.int IntKind.i64 (0))))⟩]) (CC.block 0 (CC.loop c26_b1))) c26_k1))
theorem cc26 : ccode Try.prog [] (Try.f26.body.getD .skip) = some c26 := by kernel_rfl
theorem body26 : Try.f26.body = some (Try.f26.body.getD .skip) := rfl

theorem few_C (a : VV) : PureC Try.prog 26 [aV a] (.ret (aB (fewB a))) := by
  unfold fewB
  refine pureC_of (rs := [(RV.tmp 2)]) Try.func26 (fun a w => Try.call26 a w) body26 cc26 (by kernel_rfl) ?_
  rw [Try.ntmps26]
  simp only [frs, Nat.reduceAdd, Nat.reduceSub]
  repeat (first | (with_reducible first | refine zw10 ?_ | refine zw1 ?_ | refine zw4 ?_ | refine zw18 ?_ | refine zw19 ?_ | refine zw11 ?_ | refine zw12 ?_ | refine zw14 ?_ | refine zw2 ?_ | refine zw5 ?_ | refine zw9 ?_ | refine zw13 ?_ | refine zw3 ?_ | refine zw6 ?_ | refine zw8 ?_ | refine zw15 ?_ | refine zw16 ?_ | refine zw17 ?_ | refine blk_o rfl ?_) | ((with_reducible first | refine zb1 mixed (fun K hK => ?_) | refine zb2 (fun K hK => ?_) | refine zb3 (fun K hK => ?_)); simp (disch := first | omega | (simp only [dls]; omega)) only [std, cev, cstep, St.ev, putT, AV.cells?, AV.int?, AV.bool?, AV.str?, readN, mkAV, putN, guardWant, bound, Value.oneCell', opO, putSt, reduceIte, reduceCtorEq, Int.reduceToNat, Nat.reduceAdd, Nat.reduceSub, Nat.reduceMul, Int.reduceAdd, Int.reduceSub, Int.reduceMul, Int.reduceNeg, fU]; subst hK))
  refine awp_loop (fun (zz : Nat) => ⟨(aV a :: .junk :: aB false :: aI zz :: .junk :: .junk :: .junk :: .junk :: .junk :: .junk :: .junk :: .junk :: .junk :: .junk :: .junk :: .junk :: .junk :: .junk :: .junk :: .junk :: .junk :: .junk :: .junk :: .junk :: .junk :: .junk :: .junk :: .junk :: .junk :: .junk :: .junk :: .junk :: .junk :: .junk :: []), []⟩) (fun (zz : Nat) => zz ≤ min (osl a).length 9 ∧ fewTo a zz = true) (fun (zz : Nat) => 10 - zz) (0) ?hI1 (Fgt.head (Nat.le_refl _) [true, false, true, true] ?hT1 ?hH1) ?hB1
  case hT1 => first | (simp (disch := omega) only [hds, liveT, cleanAV, cleanCell, clean1, cleanBlk, reduceIte, Int.reduceSub, Int.reduceAdd, Int.reduceNeg]; done) | rfl
  case hH1 => first | (simp (disch := omega) only [hds, liveT, cleanAV, cleanCell, clean1, cleanBlk, reduceIte, Int.reduceSub, Int.reduceAdd, Int.reduceNeg]; done) | rfl
  · exact ⟨Nat.zero_le _, rfl⟩
  rintro i ⟨hi, hs⟩
  by_cases h1 : i < (osl a).length
  · by_cases h2 : i ≤ 8
    · have hsh : shortR (rAt a i) = (decide ((osl (osl a)[i].size).length ≤ 3) && decide ((osl (osl a)[i].den).length ≤ 3)) := by unfold shortR; rw [rAt_in h1]
      by_cases s1 : (osl (osl a)[i].size).length ≤ 3
      · by_cases s2 : (osl (osl a)[i].den).length ≤ 3
        · repeat (first | (with_reducible first | refine zw10 ?_ | refine zw1 ?_ | refine zw4 ?_ | refine zw18 ?_ | refine zw19 ?_ | refine zw11 ?_ | refine zw12 ?_ | refine zw14 ?_ | refine zw2 ?_ | refine zw5 ?_ | refine zw9 ?_ | refine zw13 ?_ | refine zw3 ?_ | refine zw6 ?_ | refine zw8 ?_ | refine zw15 ?_ | refine zw16 ?_ | refine zw17 ?_ | refine blk_o rfl ?_) | ((with_reducible first | refine zb1 mixed (fun K hK => ?_) | refine zb2 (fun K hK => ?_) | refine zb3 (fun K hK => ?_)); simp (disch := first | omega | (simp only [dls]; omega)) only [std, cev, cstep, St.ev, putT, AV.cells?, AV.int?, AV.bool?, AV.str?, readN, mkAV, putN, guardWant, bound, Value.oneCell', opO, putSt, reduceIte, reduceCtorEq, Int.reduceToNat, Nat.reduceAdd, Nat.reduceSub, Nat.reduceMul, Int.reduceAdd, Int.reduceSub, Int.reduceMul, Int.reduceNeg, fU, fR]; subst hK))
          refine ⟨(i + 1), ?hI2, ?hM2, Fgt.head (Nat.le_refl _) [true, false, true, true] ?hT2 ?hH2⟩
          case hT2 => first | (simp (disch := omega) only [hds, liveT, cleanAV, cleanCell, clean1, cleanBlk, reduceIte, Int.reduceSub, Int.reduceAdd, Int.reduceNeg]; done) | rfl
          case hH2 => first | (simp (disch := omega) only [hds, liveT, cleanAV, cleanCell, clean1, cleanBlk, reduceIte, Int.reduceSub, Int.reduceAdd, Int.reduceNeg]; done) | rfl
          · exact ⟨by omega, by rw [fewTo_succ, hs, hsh, decide_eq_true s1, decide_eq_true s2]; rfl⟩
          · show 10 - (i + 1) < 10 - i; omega
        · rw [fewTo_false (show i < min (osl a).length 9 by omega) (by rw [hsh, decide_eq_false s2]; simp)]
          repeat (first | (with_reducible first | refine zw10 ?_ | refine zw1 ?_ | refine zw4 ?_ | refine zw18 ?_ | refine zw19 ?_ | refine zw11 ?_ | refine zw12 ?_ | refine zw14 ?_ | refine zw2 ?_ | refine zw5 ?_ | refine zw9 ?_ | refine zw13 ?_ | refine zw3 ?_ | refine zw6 ?_ | refine zw8 ?_ | refine zw15 ?_ | refine zw16 ?_ | refine zw17 ?_ | refine blk_o rfl ?_) | ((with_reducible first | refine zb1 mixed (fun K hK => ?_) | refine zb2 (fun K hK => ?_) | refine zb3 (fun K hK => ?_)); simp (disch := first | omega | (simp only [dls]; omega)) only [std, cev, cstep, St.ev, putT, AV.cells?, AV.int?, AV.bool?, AV.str?, readN, mkAV, putN, guardWant, bound, Value.oneCell', opO, putSt, reduceIte, reduceCtorEq, Int.reduceToNat, Nat.reduceAdd, Nat.reduceSub, Nat.reduceMul, Int.reduceAdd, Int.reduceSub, Int.reduceMul, Int.reduceNeg, fU, fR]; subst hK))
          exact ⟨_, rfl, rfl⟩
      · rw [fewTo_false (show i < min (osl a).length 9 by omega) (by rw [hsh, decide_eq_false s1]; simp)]
        repeat (first | (with_reducible first | refine zw10 ?_ | refine zw1 ?_ | refine zw4 ?_ | refine zw18 ?_ | refine zw19 ?_ | refine zw11 ?_ | refine zw12 ?_ | refine zw14 ?_ | refine zw2 ?_ | refine zw5 ?_ | refine zw9 ?_ | refine zw13 ?_ | refine zw3 ?_ | refine zw6 ?_ | refine zw8 ?_ | refine zw15 ?_ | refine zw16 ?_ | refine zw17 ?_ | refine blk_o rfl ?_) | ((with_reducible first | refine zb1 mixed (fun K hK => ?_) | refine zb2 (fun K hK => ?_) | refine zb3 (fun K hK => ?_)); simp (disch := first | omega | (simp only [dls]; omega)) only [std, cev, cstep, St.ev, putT, AV.cells?, AV.int?, AV.bool?, AV.str?, readN, mkAV, putN, guardWant, bound, Value.oneCell', opO, putSt, reduceIte, reduceCtorEq, Int.reduceToNat, Nat.reduceAdd, Nat.reduceSub, Nat.reduceMul, Int.reduceAdd, Int.reduceSub, Int.reduceMul, Int.reduceNeg, fU, fR]; subst hK))
        exact ⟨_, rfl, rfl⟩
    · have h9 : i = min (osl a).length 9 := by omega
      rw [← h9, hs, decide_eq_false (by omega)]
      repeat (first | (with_reducible first | refine zw10 ?_ | refine zw1 ?_ | refine zw4 ?_ | refine zw18 ?_ | refine zw19 ?_ | refine zw11 ?_ | refine zw12 ?_ | refine zw14 ?_ | refine zw2 ?_ | refine zw5 ?_ | refine zw9 ?_ | refine zw13 ?_ | refine zw3 ?_ | refine zw6 ?_ | refine zw8 ?_ | refine zw15 ?_ | refine zw16 ?_ | refine zw17 ?_ | refine blk_o rfl ?_) | ((with_reducible first | refine zb1 mixed (fun K hK => ?_) | refine zb2 (fun K hK => ?_) | refine zb3 (fun K hK => ?_)); simp (disch := first | omega | (simp only [dls]; omega)) only [std, cev, cstep, St.ev, putT, AV.cells?, AV.int?, AV.bool?, AV.str?, readN, mkAV, putN, guardWant, bound, Value.oneCell', opO, putSt, reduceIte, reduceCtorEq, Int.reduceToNat, Nat.reduceAdd, Nat.reduceSub, Nat.reduceMul, Int.reduceAdd, Int.reduceSub, Int.reduceMul, Int.reduceNeg, fU]; subst hK))
      exact ⟨_, rfl, rfl⟩
  · have h9 : i = min (osl a).length 9 := by omega
    rw [← h9, hs]
    by_cases h8 : (osl a).length ≤ 8
    · rw [decide_eq_true h8]
      repeat (first | (with_reducible first | refine zw10 ?_ | refine zw1 ?_ | refine zw4 ?_ | refine zw18 ?_ | refine zw19 ?_ | refine zw11 ?_ | refine zw12 ?_ | refine zw14 ?_ | refine zw2 ?_ | refine zw5 ?_ | refine zw9 ?_ | refine zw13 ?_ | refine zw3 ?_ | refine zw6 ?_ | refine zw8 ?_ | refine zw15 ?_ | refine zw16 ?_ | refine zw17 ?_ | refine blk_o rfl ?_) | ((with_reducible first | refine zb1 mixed (fun K hK => ?_) | refine zb2 (fun K hK => ?_) | refine zb3 (fun K hK => ?_)); simp (disch := first | omega | (simp only [dls]; omega)) only [std, cev, cstep, St.ev, putT, AV.cells?, AV.int?, AV.bool?, AV.str?, readN, mkAV, putN, guardWant, bound, Value.oneCell', opO, putSt, reduceIte, reduceCtorEq, Int.reduceToNat, Nat.reduceAdd, Nat.reduceSub, Nat.reduceMul, Int.reduceAdd, Int.reduceSub, Int.reduceMul, Int.reduceNeg, fU]; subst hK))
      exact ⟨_, rfl, rfl⟩
    · rw [decide_eq_false h8]
      repeat (first | (with_reducible first | refine zw10 ?_ | refine zw1 ?_ | refine zw4 ?_ | refine zw18 ?_ | refine zw19 ?_ | refine zw11 ?_ | refine zw12 ?_ | refine zw14 ?_ | refine zw2 ?_ | refine zw5 ?_ | refine zw9 ?_ | refine zw13 ?_ | refine zw3 ?_ | refine zw6 ?_ | refine zw8 ?_ | refine zw15 ?_ | refine zw16 ?_ | refine zw17 ?_ | refine blk_o rfl ?_) | ((with_reducible first | refine zb1 mixed (fun K hK => ?_) | refine zb2 (fun K hK => ?_) | refine zb3 (fun K hK => ?_)); simp (disch := first | omega | (simp only [dls]; omega)) only [std, cev, cstep, St.ev, putT, AV.cells?, AV.int?, AV.bool?, AV.str?, readN, mkAV, putN, guardWant, bound, Value.oneCell', opO, putSt, reduceIte, reduceCtorEq, Int.reduceToNat, Nat.reduceAdd, Nat.reduceSub, Nat.reduceMul, Int.reduceAdd, Int.reduceSub, Int.reduceMul, Int.reduceNeg, fU]; subst hK))
      exact ⟨_, rfl, rfl⟩

def fewerTo (a : TV) (k : Nat) : Bool := (List.range k).all fun i => shortR (tAt a i).v
def fewerB (a : TV) : Bool := fewerTo a (min (osl a).length 9) && decide ((osl a).length ≤ 8)
theorem fewerTo_succ (a : TV) (k : Nat) : fewerTo a (k + 1) = (fewerTo a k && shortR (tAt a k).v) := by
  unfold fewerTo; rw [List.range_succ, List.all_append]; simp
theorem fewerTo_false {a : TV} {k m : Nat} (hk : k < m) (h : shortR (tAt a k).v = false) : fewerTo a m = false := by
  unfold fewerTo
  rw [List.all_eq_false]
  exact ⟨k, List.mem_range.2 hk, by simp [h]⟩
theorem fewerB_fits {a : TV} (h : fewerB a = true) : FitsT a 8 3 := by
  simp only [fewerB, Bool.and_eq_true, decide_eq_true_eq] at h
  refine ⟨h.2, fun r hr => ?_⟩
  obtain ⟨i, hi, rfl⟩ := List.getElem_of_mem hr
  have := List.all_eq_true.1 h.1 i (List.mem_range.2 (by omega))
  rw [tAt_in hi] at this
  exact shortR_fits this

abbrev c34_k1 : CC := (CC.seq (CC.reg [⟨(some 33), none, (COp.mv (Operand.tmp 0))⟩, ⟨(some 34), none, (COp.len false (Operand.tmp 33))⟩, ⟨(some 35), none, (COp.bin BinOp.leq (Operand.tmp 34) (Operand.const (Value.int IntKind.i64 (8))))⟩, ⟨(some 2), none, (COp.mv (Operand.tmp 35))⟩]) CC.ret)
abbrev c34_b1 : CC := (CC.seq (CC.seq (CC.reg [⟨(some 4), none, (COp.mv (Operand.tmp 3))⟩, ⟨(some 5), none, (COp.mv (Operand.tmp 0))⟩, ⟨(some 6), none, (COp.len false (Operand.tmp 5))⟩, ⟨(some 7), none, (COp.bin BinOp.lss (Operand.tmp 4) (Operand.tmp 6))⟩, ⟨(some 8), none, (COp.mv (Operand.tmp 7))⟩, ⟨(some 9), (some (8, true)), (COp.mv (Operand.tmp 3))⟩, ⟨(some 10), (some (8, true)), (COp.bin BinOp.leq (Operand.tmp 9) (Operand.const (Value.int IntKind.i64 (8))))⟩, ⟨(some 11), none, (COp.pick (Operand.tmp 8) (Operand.tmp 10) (Operand.const (Value.bool false)))⟩]) (CC.cond (Operand.tmp 11) CC.skip (CC.exit 0))) (CC.seq (CC.block 1 (CC.seq (CC.reg [⟨(some 14), none, (COp.mv (Operand.tmp 0))⟩, ⟨(some 15), none, (COp.mv (Operand.tmp 3))⟩, ⟨(some 16), none, (COp.iaddr 4 none (Operand.tmp 14) (Operand.tmp 15))⟩, ⟨(some 17), none, (COp.faddr 1 (Operand.tmp 16))⟩, ⟨(some 18), none, (COp.faddr 0 (Operand.tmp 17))⟩, ⟨(some 19), none, (COp.faddr 1 (Operand.tmp 18))⟩, ⟨(some 20), none, (COp.load 1 false (Operand.tmp 19))⟩, ⟨(some 21), none, (COp.len false (Operand.tmp 20))⟩, ⟨(some 22), none, (COp.bin BinOp.gtr (Operand.tmp 21) (Operand.const (Value.int IntKind.i64 (3))))⟩, ⟨(some 23), none, (COp.mv (Operand.tmp 22))⟩, ⟨(some 24), (some (23, false)), (COp.mv (Operand.tmp 0))⟩, ⟨(some 25), (some (23, false)), (COp.mv (Operand.tmp 3))⟩, ⟨(some 26), (some (23, false)), (COp.iaddr 4 none (Operand.tmp 24) (Operand.tmp 25))⟩, ⟨(some 27), (some (23, false)), (COp.faddr 1 (Operand.tmp 26))⟩, ⟨(some 28), (some (23, false)), (COp.faddr 2 (Operand.tmp 27))⟩, ⟨(some 29), (some (23, false)), (COp.load 1 false (Operand.tmp 28))⟩, ⟨(some 30), (some (23, false)), (COp.len false (Operand.tmp 29))⟩, ⟨(some 31), (some (23, false)), (COp.bin BinOp.gtr (Operand.tmp 30) (Operand.const (Value.int IntKind.i64 (3))))⟩, ⟨(some 32), none, (COp.pick (Operand.tmp 23) (Operand.const (Value.bool true)) (Operand.tmp 31))⟩]) (CC.cond (Operand.tmp 32) (CC.seq (CC.reg [⟨(some 2), none, (COp.mv (Operand.const (Value.bool false)))⟩]) CC.ret) CC.skip))) (CC.reg [⟨(some 12), none, (COp.mv (Operand.tmp 3))⟩, ⟨(some 13), none, (COp.bin BinOp.add (Operand.tmp 12) (Operand.const (Value.int IntKind.i64 (1))))⟩, ⟨(some 3), none, (COp.mv (Operand.tmp 13))⟩])))
abbrev c34 : CC := (CC.seq (CC.reg [⟨(some 2), none, (COp.mv (Operand.const (Value.bool false)))⟩]) (CC.seq (CC.seq (CC.reg [⟨(some 3), none, (COp.mv (Operand.const (Value.int IntKind.i64 (0))))⟩]) (CC.block 0 (CC.loop c34_b1))) c34_k1))
theorem cc34 : ccode Try.prog [] (Try.f34.body.getD .skip) = some c34 := by kernel_rfl
theorem body34 : Try.f34.body = some (Try.f34.body.getD .skip) := rfl

theorem fewer_C (a : TV) : PureC Try.prog 34 [aT a] (.ret (aB (fewerB a))) := by
  unfold fewerB
  refine pureC_of (rs := [(RV.tmp 2)]) Try.func34 (fun a w => Try.call34 a w) body34 cc34 (by kernel_rfl) ?_
  rw [Try.ntmps34]
  simp only [frs, Nat.reduceAdd, Nat.reduceSub]
  repeat (first | (with_reducible first | refine zw10 ?_ | refine zw1 ?_ | refine zw4 ?_ | refine zw18 ?_ | refine zw19 ?_ | refine zw11 ?_ | refine zw12 ?_ | refine zw14 ?_ | refine zw2 ?_ | refine zw5 ?_ | refine zw9 ?_ | refine zw13 ?_ | refine zw3 ?_ | refine zw6 ?_ | refine zw8 ?_ | refine zw15 ?_ | refine zw16 ?_ | refine zw17 ?_ | refine blk_o rfl ?_) | ((with_reducible first | refine zb1 mixed (fun K hK => ?_) | refine zb2 (fun K hK => ?_) | refine zb3 (fun K hK => ?_)); simp (disch := first | omega | (simp only [dls]; omega)) only [std, cev, cstep, St.ev, putT, AV.cells?, AV.int?, AV.bool?, AV.str?, readN, mkAV, putN, guardWant, bound, Value.oneCell', opO, putSt, reduceIte, reduceCtorEq, Int.reduceToNat, Nat.reduceAdd, Nat.reduceSub, Nat.reduceMul, Int.reduceAdd, Int.reduceSub, Int.reduceMul, Int.reduceNeg, fU]; subst hK))
  refine awp_loop (fun (zz : Nat) => ⟨(aT a :: .junk :: aB false :: aI zz :: .junk :: .junk :: .junk :: .junk :: .junk :: .junk :: .junk :: .junk :: .junk :: .junk :: .junk :: .junk :: .junk :: .junk :: .junk :: .junk :: .junk :: .junk :: .junk :: .junk :: .junk :: .junk :: .junk :: .junk :: .junk :: .junk :: .junk :: .junk :: .junk :: .junk :: .junk :: .junk :: []), []⟩) (fun (zz : Nat) => zz ≤ min (osl a).length 9 ∧ fewerTo a zz = true) (fun (zz : Nat) => 10 - zz) (0) ?hI3 (Fgt.head (Nat.le_refl _) [true, false, true, true] ?hT3 ?hH3) ?hB3
  case hT3 => first | (simp (disch := omega) only [hds, liveT, cleanAV, cleanCell, clean1, cleanBlk, reduceIte, Int.reduceSub, Int.reduceAdd, Int.reduceNeg]; done) | rfl
  case hH3 => first | (simp (disch := omega) only [hds, liveT, cleanAV, cleanCell, clean1, cleanBlk, reduceIte, Int.reduceSub, Int.reduceAdd, Int.reduceNeg]; done) | rfl
  · exact ⟨Nat.zero_le _, rfl⟩
  rintro i ⟨hi, hs⟩
  by_cases h1 : i < (osl a).length
  · by_cases h2 : i ≤ 8
    · have hsh : shortR (tAt a i).v = (decide ((osl (osl a)[i].v.size).length ≤ 3) && decide ((osl (osl a)[i].v.den).length ≤ 3)) := by unfold shortR; rw [tAt_in h1]
      by_cases s1 : (osl (osl a)[i].v.size).length ≤ 3
      · by_cases s2 : (osl (osl a)[i].v.den).length ≤ 3
        · repeat (first | (with_reducible first | refine zw10 ?_ | refine zw1 ?_ | refine zw4 ?_ | refine zw18 ?_ | refine zw19 ?_ | refine zw11 ?_ | refine zw12 ?_ | refine zw14 ?_ | refine zw2 ?_ | refine zw5 ?_ | refine zw9 ?_ | refine zw13 ?_ | refine zw3 ?_ | refine zw6 ?_ | refine zw8 ?_ | refine zw15 ?_ | refine zw16 ?_ | refine zw17 ?_ | refine blk_o rfl ?_) | ((with_reducible first | refine zb1 mixed (fun K hK => ?_) | refine zb2 (fun K hK => ?_) | refine zb3 (fun K hK => ?_)); simp (disch := first | omega | (simp only [dls]; omega)) only [std, cev, cstep, St.ev, putT, AV.cells?, AV.int?, AV.bool?, AV.str?, readN, mkAV, putN, guardWant, bound, Value.oneCell', opO, putSt, reduceIte, reduceCtorEq, Int.reduceToNat, Nat.reduceAdd, Nat.reduceSub, Nat.reduceMul, Int.reduceAdd, Int.reduceSub, Int.reduceMul, Int.reduceNeg, fU, fT]; subst hK))
          refine ⟨(i + 1), ?hI4, ?hM4, Fgt.head (Nat.le_refl _) [true, false, true, true] ?hT4 ?hH4⟩
          case hT4 => first | (simp (disch := omega) only [hds, liveT, cleanAV, cleanCell, clean1, cleanBlk, reduceIte, Int.reduceSub, Int.reduceAdd, Int.reduceNeg]; done) | rfl
          case hH4 => first | (simp (disch := omega) only [hds, liveT, cleanAV, cleanCell, clean1, cleanBlk, reduceIte, Int.reduceSub, Int.reduceAdd, Int.reduceNeg]; done) | rfl
          · exact ⟨by omega, by rw [fewerTo_succ, hs, hsh, decide_eq_true s1, decide_eq_true s2]; rfl⟩
          · show 10 - (i + 1) < 10 - i; omega
        · rw [fewerTo_false (show i < min (osl a).length 9 by omega) (by rw [hsh, decide_eq_false s2]; simp)]
          repeat (first | (with_reducible first | refine zw10 ?_ | refine zw1 ?_ | refine zw4 ?_ | refine zw18 ?_ | refine zw19 ?_ | refine zw11 ?_ | refine zw12 ?_ | refine zw14 ?_ | refine zw2 ?_ | refine zw5 ?_ | refine zw9 ?_ | refine zw13 ?_ | refine zw3 ?_ | refine zw6 ?_ | refine zw8 ?_ | refine zw15 ?_ | refine zw16 ?_ | refine zw17 ?_ | refine blk_o rfl ?_) | ((with_reducible first | refine zb1 mixed (fun K hK => ?_) | refine zb2 (fun K hK => ?_) | refine zb3 (fun K hK => ?_)); simp (disch := first | omega | (simp only [dls]; omega)) only [std, cev, cstep, St.ev, putT, AV.cells?, AV.int?, AV.bool?, AV.str?, readN, mkAV, putN, guardWant, bound, Value.oneCell', opO, putSt, reduceIte, reduceCtorEq, Int.reduceToNat, Nat.reduceAdd, Nat.reduceSub, Nat.reduceMul, Int.reduceAdd, Int.reduceSub, Int.reduceMul, Int.reduceNeg, fU, fT]; subst hK))
          exact ⟨_, rfl, rfl⟩
      · rw [fewerTo_false (show i < min (osl a).length 9 by omega) (by rw [hsh, decide_eq_false s1]; simp)]
        repeat (first | (with_reducible first | refine zw10 ?_ | refine zw1 ?_ | refine zw4 ?_ | refine zw18 ?_ | refine zw19 ?_ | refine zw11 ?_ | refine zw12 ?_ | refine zw14 ?_ | refine zw2 ?_ | refine zw5 ?_ | refine zw9 ?_ | refine zw13 ?_ | refine zw3 ?_ | refine zw6 ?_ | refine zw8 ?_ | refine zw15 ?_ | refine zw16 ?_ | refine zw17 ?_ | refine blk_o rfl ?_) | ((with_reducible first | refine zb1 mixed (fun K hK => ?_) | refine zb2 (fun K hK => ?_) | refine zb3 (fun K hK => ?_)); simp (disch := first | omega | (simp only [dls]; omega)) only [std, cev, cstep, St.ev, putT, AV.cells?, AV.int?, AV.bool?, AV.str?, readN, mkAV, putN, guardWant, bound, Value.oneCell', opO, putSt, reduceIte, reduceCtorEq, Int.reduceToNat, Nat.reduceAdd, Nat.reduceSub, Nat.reduceMul, Int.reduceAdd, Int.reduceSub, Int.reduceMul, Int.reduceNeg, fU, fT]; subst hK))
        exact ⟨_, rfl, rfl⟩
    · have h9 : i = min (osl a).length 9 := by omega
      rw [← h9, hs, decide_eq_false (by omega)]
      repeat (first | (with_reducible first | refine zw10 ?_ | refine zw1 ?_ | refine zw4 ?_ | refine zw18 ?_ | refine zw19 ?_ | refine zw11 ?_ | refine zw12 ?_ | refine zw14 ?_ | refine zw2 ?_ | refine zw5 ?_ | refine zw9 ?_ | refine zw13 ?_ | refine zw3 ?_ | refine zw6 ?_ | refine zw8 ?_ | refine zw15 ?_ | refine zw16 ?_ | refine zw17 ?_ | refine blk_o rfl ?_) | ((with_reducible first | refine zb1 mixed (fun K hK => ?_) | refine zb2 (fun K hK => ?_) | refine zb3 (fun K hK => ?_)); simp (disch := first | omega | (simp only [dls]; omega)) only [std, cev, cstep, St.ev, putT, AV.cells?, AV.int?, AV.bool?, AV.str?, readN, mkAV, putN, guardWant, bound, Value.oneCell', opO, putSt, reduceIte, reduceCtorEq, Int.reduceToNat, Nat.reduceAdd, Nat.reduceSub, Nat.reduceMul, Int.reduceAdd, Int.reduceSub, Int.reduceMul, Int.reduceNeg, fU]; subst hK))
      exact ⟨_, rfl, rfl⟩
  · have h9 : i = min (osl a).length 9 := by omega
    rw [← h9, hs]
    by_cases h8 : (osl a).length ≤ 8
    · rw [decide_eq_true h8]
      repeat (first | (with_reducible first | refine zw10 ?_ | refine zw1 ?_ | refine zw4 ?_ | refine zw18 ?_ | refine zw19 ?_ | refine zw11 ?_ | refine zw12 ?_ | refine zw14 ?_ | refine zw2 ?_ | refine zw5 ?_ | refine zw9 ?_ | refine zw13 ?_ | refine zw3 ?_ | refine zw6 ?_ | refine zw8 ?_ | refine zw15 ?_ | refine zw16 ?_ | refine zw17 ?_ | refine blk_o rfl ?_) | ((with_reducible first | refine zb1 mixed (fun K hK => ?_) | refine zb2 (fun K hK => ?_) | refine zb3 (fun K hK => ?_)); simp (disch := first | omega | (simp only [dls]; omega)) only [std, cev, cstep, St.ev, putT, AV.cells?, AV.int?, AV.bool?, AV.str?, readN, mkAV, putN, guardWant, bound, Value.oneCell', opO, putSt, reduceIte, reduceCtorEq, Int.reduceToNat, Nat.reduceAdd, Nat.reduceSub, Nat.reduceMul, Int.reduceAdd, Int.reduceSub, Int.reduceMul, Int.reduceNeg, fU]; subst hK))
      exact ⟨_, rfl, rfl⟩
    · rw [decide_eq_false h8]
      repeat (first | (with_reducible first | refine zw10 ?_ | refine zw1 ?_ | refine zw4 ?_ | refine zw18 ?_ | refine zw19 ?_ | refine zw11 ?_ | refine zw12 ?_ | refine zw14 ?_ | refine zw2 ?_ | refine zw5 ?_ | refine zw9 ?_ | refine zw13 ?_ | refine zw3 ?_ | refine zw6 ?_ | refine zw8 ?_ | refine zw15 ?_ | refine zw16 ?_ | refine zw17 ?_ | refine blk_o rfl ?_) | ((with_reducible first | refine zb1 mixed (fun K hK => ?_) | refine zb2 (fun K hK => ?_) | refine zb3 (fun K hK => ?_)); simp (disch := first | omega | (simp only [dls]; omega)) only [std, cev, cstep, St.ev, putT, AV.cells?, AV.int?, AV.bool?, AV.str?, readN, mkAV, putN, guardWant, bound, Value.oneCell', opO, putSt, reduceIte, reduceCtorEq, Int.reduceToNat, Nat.reduceAdd, Nat.reduceSub, Nat.reduceMul, Int.reduceAdd, Int.reduceSub, Int.reduceMul, Int.reduceNeg, fU]; subst hK))
      exact ⟨_, rfl, rfl⟩

def rowD (a : VV) : List Rat := (osl a).map RR.val
theorem rowD_len (a : VV) : (rowD a).length = (osl a).length := by simp [rowD]
theorem dAt_rowD (a : VV) (i : Nat) : dAt (rowO (rowD a)) i = qAt a i := by
  unfold dAt
  rw [osl_rowO]
  unfold rowD qAt rAt
  simp only [List.getD_eq_getElem?_getD, List.getElem?_map]
  cases (osl a)[i]? with
  | none => exact zR_val.symm
  | some r => rfl
theorem fitsD_rowD {a : VV} {n L : Nat} (h : FitsV a n L) (hL : 1 ≤ L) : FitsD (rowO (rowD a)) n L := by
  refine ⟨by rw [osl_rowO, rowD_len]; exact h.1, fun q hq => ?_⟩
  rw [osl_rowO] at hq
  obtain ⟨r, hr, rfl⟩ := List.mem_map.1 hq
  exact (h.2 r hr).val hL

abbrev c31_k1 : CC := (CC.seq (CC.reg [⟨(some 18), none, (COp.mv (Operand.tmp 3))⟩, ⟨(some 2), none, (COp.mv (Operand.tmp 18))⟩]) CC.ret)
abbrev c31_b1 : CC := (CC.seq (CC.reg [⟨(some 9), none, (COp.bin BinOp.lss (Operand.tmp 8) (Operand.tmp 7))⟩]) (CC.seq (CC.cond (Operand.tmp 9) CC.skip (CC.exit 0)) (CC.seq (CC.block 1 (CC.seq (CC.reg [⟨(some 10), none, (COp.iaddr 3 none (Operand.tmp 6) (Operand.tmp 8))⟩, ⟨(some 11), none, (COp.load 3 true (Operand.tmp 10))⟩, ⟨(some 5), none, (COp.new 40 [(Value.bool false), (Value.slice none 0 0), (Value.slice none 0 0)])⟩, ⟨none, none, (COp.store 3 (Operand.tmp 5) (Operand.tmp 11))⟩]) (CC.reg [⟨(some 12), none, (COp.mv (Operand.tmp 3))⟩, ⟨(some 13), none, (COp.load 3 true (Operand.tmp 5))⟩, ⟨(some 14), none, (COp.callf (Operand.func 35) [(Operand.tmp 13)])⟩, ⟨(some 15), none, (COp.mkrow 33 2 [(Operand.tmp 14)])⟩, ⟨(some 16), none, (COp.append 33 2 32 (Operand.tmp 12) (Operand.tmp 15))⟩, ⟨(some 3), none, (COp.mv (Operand.tmp 16))⟩]))) (CC.reg [⟨(some 17), none, (COp.bin BinOp.add (Operand.tmp 8) (Operand.const (Value.int IntKind.i64 (1))))⟩, ⟨(some 8), none, (COp.mv (Operand.tmp 17))⟩]))))
abbrev c31 : CC := (CC.seq (CC.reg [⟨(some 2), none, (COp.mv (Operand.const (Value.slice none 0 0)))⟩]) (CC.seq (CC.reg [⟨(some 3), none, (COp.mv (Operand.const (Value.slice none 0 0)))⟩]) (CC.seq (CC.seq (CC.reg [⟨(some 6), none, (COp.mv (Operand.tmp 0))⟩, ⟨(some 7), none, (COp.len false (Operand.tmp 6))⟩, ⟨(some 8), none, (COp.mv (Operand.const (Value.int IntKind.i64 (0))))⟩]) (CC.block 0 (CC.loop c31_b1))) c31_k1)))
theorem cc31 : ccode Try.prog [] (Try.f31.body.getD .skip) = some c31 := by kernel_rfl
theorem body31 : Try.f31.body = some (Try.f31.body.getD .skip) := rfl

theorem row_C (a : VV) (n L : Nat) (ha : FitsV a n L) (hn : n ≤ 1000000) (hL2 : L ≤ 1000000) : PureC Try.prog 31 [aV a] (.ret (aD (rowO (rowD a)))) := by
  have ha1 := ha.1
  refine PureC.fresh_rowO (ty := 33) ?_
  refine pureC_of (rs := [(RV.tmp 2)]) Try.func31 (fun a w => Try.call31 a w) body31 cc31 (by kernel_rfl) ?_
  rw [Try.ntmps31]
  simp only [frs, Nat.reduceAdd, Nat.reduceSub]
  repeat (first | (with_reducible first | refine zw10 ?_ | refine zw1 ?_ | refine zw4 ?_ | refine zw18 ?_ | refine zw19 ?_ | refine zw11 ?_ | refine zw12 ?_ | refine zw14 ?_ | refine zw2 ?_ | refine zw5 ?_ | refine zw9 ?_ | refine zw13 ?_ | refine zw3 ?_ | refine zw6 ?_ | refine zw8 ?_ | refine zw15 ?_ | refine zw16 ?_ | refine zw17 ?_ | refine blk_o rfl ?_) | ((with_reducible first | refine zb1 mixed (fun K hK => ?_) | refine zb2 (fun K hK => ?_) | refine zb3 (fun K hK => ?_)); simp (disch := first | omega | (simp only [dls]; omega)) only [std, cev, cstep, St.ev, putT, AV.cells?, AV.int?, AV.bool?, AV.str?, readN, mkAV, putN, guardWant, bound, Value.oneCell', opO, putSt, reduceIte, reduceCtorEq, Int.reduceToNat, Nat.reduceAdd, Nat.reduceSub, Nat.reduceMul, Int.reduceAdd, Int.reduceSub, Int.reduceMul, Int.reduceNeg, fU]; subst hK))
  refine AWp.fgt ?_ (Fgt.openNil (i := 3) rfl 33 2)
  simp only [List.set_cons_succ, List.set_cons_zero, List.length_nil, List.length_cons, List.nil_append, List.cons_append, Nat.reduceAdd]
  refine awp_loop (fun (zz : Nat × (List Rat) × Nat × Bool) => ⟨(aV a :: .junk :: .one (.c (.val (.slice none 0 0))) :: .one (.own 0 zz.2.2.1) :: .junk :: .junk :: aV a :: aI (osl a).length :: aI zz.1 :: .junk :: .junk :: .junk :: .junk :: .junk :: .junk :: .junk :: .junk :: .junk :: .junk :: []), [⟨zz.2.2.1, 33, 2, encB fD zz.2.1, true, zz.2.2.2⟩]⟩) (fun (zz : Nat × (List Rat) × Nat × Bool) => zz.1 ≤ (osl a).length ∧ zz.2.1 = ((osl a).take zz.1).map RR.val ∧ zz.2.2.2 = !zz.2.1.isEmpty) (fun (zz : Nat × (List Rat) × Nat × Bool) => (osl a).length - zz.1) (0, [], 0, false) ?hI5 (Fgt.head (Nat.zero_le 1) [true, false, true, true, false, false, true, true, true] ?hT5 ?hH5) ?hB5
  case hT5 => first | (simp (disch := omega) only [hds, liveT, cleanAV, cleanCell, clean1, cleanBlk, reduceIte, Int.reduceSub, Int.reduceAdd, Int.reduceNeg, encB_nil]; done) | rfl
  case hH5 => first | (simp (disch := omega) only [hds, liveT, cleanAV, cleanCell, clean1, cleanBlk, reduceIte, Int.reduceSub, Int.reduceAdd, Int.reduceNeg, encB_nil]; done) | rfl
  · dsimp only; exact ⟨by omega, rfl, rfl⟩
  rintro ⟨i, out, v, nn⟩ ⟨hi, ho, hnn⟩
  dsimp only at hi ho hnn
  by_cases him : i = (osl a).length
  · repeat (first | (with_reducible first | refine zw10 ?_ | refine zw1 ?_ | refine zw4 ?_ | refine zw18 ?_ | refine zw19 ?_ | refine zw11 ?_ | refine zw12 ?_ | refine zw14 ?_ | refine zw2 ?_ | refine zw5 ?_ | refine zw9 ?_ | refine zw13 ?_ | refine zw3 ?_ | refine zw6 ?_ | refine zw8 ?_ | refine zw15 ?_ | refine zw16 ?_ | refine zw17 ?_ | refine blk_o rfl ?_) | ((with_reducible first | refine zb1 mixed (fun K hK => ?_) | refine zb2 (fun K hK => ?_) | refine zb3 (fun K hK => ?_)); simp (disch := first | omega | (simp only [dls]; omega)) only [std, cev, cstep, St.ev, putT, AV.cells?, AV.int?, AV.bool?, AV.str?, readN, mkAV, putN, guardWant, bound, Value.oneCell', opO, putSt, reduceIte, reduceCtorEq, Int.reduceToNat, Nat.reduceAdd, Nat.reduceSub, Nat.reduceMul, Int.reduceAdd, Int.reduceSub, Int.reduceMul, Int.reduceNeg, fU]; subst hK))
    refine ⟨_, rfl, ?_⟩
    rw [him, List.take_length] at ho
    have he : (!(rowD a).isEmpty) = nn := by rw [hnn, ho]; rfl
    rw [he, show rowD a = out from ho.symm]
    exact Ends.fresh_enc rfl
  · have hlt : i < (osl a).length := by omega
    have hof := lof_C (osl a)[i] ((ha.2 _ (List.getElem_mem hlt)).mono (by omega))
    have hol : out.length = i := by rw [ho, List.length_map, List.length_take]; omega
    repeat (first | (with_reducible first | refine zw10 ?_ | refine zw1 ?_ | refine zw4 ?_ | refine zw18 ?_ | refine zw19 ?_ | refine zw11 ?_ | refine zw12 ?_ | refine zw14 ?_ | refine zw2 ?_ | refine zw5 ?_ | refine zw9 ?_ | refine zw13 ?_ | refine zw3 ?_ | refine zw6 ?_ | refine zw8 ?_ | refine zw15 ?_ | refine zw16 ?_ | refine zw17 ?_ | refine blk_o rfl ?_) | ((with_reducible first | refine zb1 mixed (fun K hK => ?_) | refine zb2 (fun K hK => ?_) | refine zb3 (fun K hK => ?_)); simp (disch := first | omega | (simp only [dls]; omega)) only [std, cev, cstep, St.ev, putT, AV.cells?, AV.int?, AV.bool?, AV.str?, readN, mkAV, putN, guardWant, bound, Value.oneCell', opO, putSt, reduceIte, reduceCtorEq, Int.reduceToNat, Nat.reduceAdd, Nat.reduceSub, Nat.reduceMul, Int.reduceAdd, Int.reduceSub, Int.reduceMul, Int.reduceNeg, fU, fR]; subst hK) | refine zcA (hof) rfl rfl rfl ?_)
    refine ⟨(i + 1, out ++ [(osl a)[i].val], v + 1, true), ?hI6, ?hM6, Fgt.head (Nat.zero_le 1) [true, false, true, true, false, false, true, true, true] ?hT6 ?hH6⟩
    case hT6 => first | (simp (disch := omega) only [hds, liveT, cleanAV, cleanCell, clean1, cleanBlk, reduceIte, Int.reduceSub, Int.reduceAdd, Int.reduceNeg, encB_snoc_D, List.isEmpty_cons, Bool.or_true, Bool.not_false]; done) | rfl
    case hH6 => first | (simp (disch := omega) only [hds, liveT, cleanAV, cleanCell, clean1, cleanBlk, reduceIte, Int.reduceSub, Int.reduceAdd, Int.reduceNeg, encB_snoc_D, List.isEmpty_cons, Bool.or_true, Bool.not_false]; done) | rfl
    · dsimp only
      refine ⟨by omega, ?_, by simp⟩
      rw [ho, List.take_succ_eq_append_getElem hlt, List.map_append]
      rfl
    · dsimp only; omega

abbrev c42_k1 : CC := (CC.seq (CC.reg [⟨(some 4), none, (COp.mv (Operand.const (Value.bool true)))⟩]) CC.ret)
abbrev c42_b1 : CC := (CC.seq (CC.reg [⟨(some 14), none, (COp.bin BinOp.lss (Operand.tmp 13) (Operand.tmp 12))⟩]) (CC.seq (CC.cond (Operand.tmp 14) CC.skip (CC.exit 0)) (CC.seq (CC.block 1 (CC.seq (CC.reg [⟨(some 15), none, (COp.mv (Operand.tmp 13))⟩, ⟨(some 5), none, (COp.mv (Operand.tmp 15))⟩]) (CC.seq (CC.reg [⟨(some 16), none, (COp.mv (Operand.tmp 0))⟩, ⟨(some 17), none, (COp.mv (Operand.tmp 5))⟩, ⟨(some 18), none, (COp.iaddr 3 none (Operand.tmp 16) (Operand.tmp 17))⟩, ⟨(some 19), none, (COp.load 3 true (Operand.tmp 18))⟩, ⟨(some 20), none, (COp.mv (Operand.tmp 1))⟩, ⟨(some 21), none, (COp.mv (Operand.tmp 5))⟩, ⟨(some 22), none, (COp.iaddr 2 none (Operand.tmp 20) (Operand.tmp 21))⟩, ⟨(some 23), none, (COp.load 2 true (Operand.tmp 22))⟩, ⟨(some 24), none, (COp.callf (Operand.func 32) [(Operand.tmp 19), (Operand.tmp 23)])⟩, ⟨(some 25), none, (COp.un UnOp.not (Operand.tmp 24))⟩]) (CC.cond (Operand.tmp 25) (CC.seq (CC.reg [⟨(some 4), none, (COp.mv (Operand.const (Value.bool false)))⟩]) CC.ret) CC.skip)))) (CC.reg [⟨(some 26), none, (COp.bin BinOp.add (Operand.tmp 13) (Operand.const (Value.int IntKind.i64 (1))))⟩, ⟨(some 13), none, (COp.mv (Operand.tmp 26))⟩]))))
abbrev c42 : CC := (CC.seq (CC.reg [⟨(some 4), none, (COp.mv (Operand.const (Value.bool false)))⟩]) (CC.seq (CC.seq (CC.reg [⟨(some 6), none, (COp.mv (Operand.tmp 0))⟩, ⟨(some 7), none, (COp.len false (Operand.tmp 6))⟩, ⟨(some 8), none, (COp.mv (Operand.tmp 1))⟩, ⟨(some 9), none, (COp.len false (Operand.tmp 8))⟩, ⟨(some 10), none, (COp.bin BinOp.neq (Operand.tmp 7) (Operand.tmp 9))⟩]) (CC.cond (Operand.tmp 10) (CC.seq (CC.reg [⟨(some 4), none, (COp.mv (Operand.const (Value.bool false)))⟩]) CC.ret) CC.skip)) (CC.seq (CC.seq (CC.reg [⟨(some 11), none, (COp.mv (Operand.tmp 0))⟩, ⟨(some 12), none, (COp.len false (Operand.tmp 11))⟩, ⟨(some 13), none, (COp.mv (Operand.const (Value.int IntKind.i64 (0))))⟩]) (CC.block 0 (CC.loop c42_b1))) c42_k1)))
theorem cc42 : ccode Try.prog [] (Try.f42.body.getD .skip) = some c42 := by kernel_rfl
theorem body42 : Try.f42.body = some (Try.f42.body.getD .skip) := rfl

theorem rows_C (l : List Rat) (hn : l.length ≤ 1000000) (hl : ∀ q ∈ l, FitsQ q 9000000) : PureC Try.prog 42 [aV (rowO (l.map rawQ)), aD (rowO l)] (.ret (aB true)) := by
  have e1 : (osl (rowO (l.map rawQ))).length = l.length := by rw [osl_rowO, List.length_map]
  have e2 : (osl (rowO l)).length = l.length := by rw [osl_rowO]
  have g1 : ∀ i (h : i < (osl (rowO (l.map rawQ))).length), (osl (rowO (l.map rawQ)))[i] = rawQ (l[i]'(by rw [e1] at h; exact h)) := fun i h => by simp only [osl_rowO, List.getElem_map]
  have g2 : ∀ i (h : i < (osl (rowO l)).length), (osl (rowO l))[i] = l[i]'(by rw [e2] at h; exact h) := fun i h => by simp only [osl_rowO]
  generalize rowO (l.map rawQ) = a at *
  generalize rowO l = x at *
  refine pureC_of (rs := [(RV.tmp 4)]) Try.func42 (fun a w => Try.call42 a w) body42 cc42 (by kernel_rfl) ?_
  rw [Try.ntmps42]
  simp only [frs, Nat.reduceAdd, Nat.reduceSub]
  repeat (first | (with_reducible first | refine zw10 ?_ | refine zw1 ?_ | refine zw4 ?_ | refine zw18 ?_ | refine zw19 ?_ | refine zw11 ?_ | refine zw12 ?_ | refine zw14 ?_ | refine zw2 ?_ | refine zw5 ?_ | refine zw9 ?_ | refine zw13 ?_ | refine zw3 ?_ | refine zw6 ?_ | refine zw8 ?_ | refine zw15 ?_ | refine zw16 ?_ | refine zw17 ?_ | refine blk_o rfl ?_) | ((with_reducible first | refine zb1 mixed (fun K hK => ?_) | refine zb2 (fun K hK => ?_) | refine zb3 (fun K hK => ?_)); simp (disch := first | omega | (simp only [dls]; omega)) only [std, cev, cstep, St.ev, putT, AV.cells?, AV.int?, AV.bool?, AV.str?, readN, mkAV, putN, guardWant, bound, Value.oneCell', opO, putSt, reduceIte, reduceCtorEq, Int.reduceToNat, Nat.reduceAdd, Nat.reduceSub, Nat.reduceMul, Int.reduceAdd, Int.reduceSub, Int.reduceMul, Int.reduceNeg, fU, e1, e2]; subst hK))
  refine awp_loop (fun (zz : Nat) => ⟨(aV a :: aD x :: .junk :: .junk :: aB false :: .junk :: .junk :: .junk :: .junk :: .junk :: .junk :: aV a :: aI (l.length : Int) :: aI zz :: .junk :: .junk :: .junk :: .junk :: .junk :: .junk :: .junk :: .junk :: .junk :: .junk :: .junk :: .junk :: .junk :: []), []⟩) (fun (zz : Nat) => zz ≤ l.length) (fun (zz : Nat) => l.length - zz) (0) ?hI7 (Fgt.head (Nat.le_refl _) [true, true, false, false, true, false, false, false, false, false, false, true, true, true] ?hT7 ?hH7) ?hB7
  case hT7 => first | (simp (disch := omega) only [hds, liveT, cleanAV, cleanCell, clean1, cleanBlk, reduceIte, Int.reduceSub, Int.reduceAdd, Int.reduceNeg]; done) | rfl
  case hH7 => first | (simp (disch := omega) only [hds, liveT, cleanAV, cleanCell, clean1, cleanBlk, reduceIte, Int.reduceSub, Int.reduceAdd, Int.reduceNeg]; done) | rfl
  · exact Nat.zero_le _
  intro i hi
  by_cases him : i = l.length
  · repeat (first | (with_reducible first | refine zw10 ?_ | refine zw1 ?_ | refine zw4 ?_ | refine zw18 ?_ | refine zw19 ?_ | refine zw11 ?_ | refine zw12 ?_ | refine zw14 ?_ | refine zw2 ?_ | refine zw5 ?_ | refine zw9 ?_ | refine zw13 ?_ | refine zw3 ?_ | refine zw6 ?_ | refine zw8 ?_ | refine zw15 ?_ | refine zw16 ?_ | refine zw17 ?_ | refine blk_o rfl ?_) | ((with_reducible first | refine zb1 mixed (fun K hK => ?_) | refine zb2 (fun K hK => ?_) | refine zb3 (fun K hK => ?_)); simp (disch := first | omega | (simp only [dls]; omega)) only [std, cev, cstep, St.ev, putT, AV.cells?, AV.int?, AV.bool?, AV.str?, readN, mkAV, putN, guardWant, bound, Value.oneCell', opO, putSt, reduceIte, reduceCtorEq, Int.reduceToNat, Nat.reduceAdd, Nat.reduceSub, Nat.reduceMul, Int.reduceAdd, Int.reduceSub, Int.reduceMul, Int.reduceNeg, fU]; subst hK))
    exact ⟨_, rfl, rfl⟩
  · have hlt : i < l.length := by omega
    have h1 : i < (osl a).length := by omega
    have h2 : i < (osl x).length := by omega
    have his := is_C l[i] l[i] (hl _ (List.getElem_mem hlt))
    rw [decide_eq_true rfl] at his
    have k1 := g1 i h1
    have k2 := g2 i h2
    generalize rawQ l[i] = ri at *
    generalize l[i] = qi at *
    repeat (first | (with_reducible first | refine zw10 ?_ | refine zw1 ?_ | refine zw4 ?_ | refine zw18 ?_ | refine zw19 ?_ | refine zw11 ?_ | refine zw12 ?_ | refine zw14 ?_ | refine zw2 ?_ | refine zw5 ?_ | refine zw9 ?_ | refine zw13 ?_ | refine zw3 ?_ | refine zw6 ?_ | refine zw8 ?_ | refine zw15 ?_ | refine zw16 ?_ | refine zw17 ?_ | refine blk_o rfl ?_) | ((with_reducible first | refine zb1 mixed (fun K hK => ?_) | refine zb2 (fun K hK => ?_) | refine zb3 (fun K hK => ?_)); simp (disch := first | omega | (simp only [dls]; omega)) only [std, cev, cstep, St.ev, putT, AV.cells?, AV.int?, AV.bool?, AV.str?, readN, mkAV, putN, guardWant, bound, Value.oneCell', opO, putSt, reduceIte, reduceCtorEq, Int.reduceToNat, Nat.reduceAdd, Nat.reduceSub, Nat.reduceMul, Int.reduceAdd, Int.reduceSub, Int.reduceMul, Int.reduceNeg, fU, fR, fD, k1, k2]; subst hK) | refine zcA (his) rfl rfl rfl ?_)
    refine ⟨(i + 1), ?hI8, ?hM8, Fgt.head (Nat.le_refl _) [true, true, false, false, true, false, false, false, false, false, false, true, true, true] ?hT8 ?hH8⟩
    case hT8 => first | (simp (disch := omega) only [hds, liveT, cleanAV, cleanCell, clean1, cleanBlk, reduceIte, Int.reduceSub, Int.reduceAdd, Int.reduceNeg]; done) | rfl
    case hH8 => first | (simp (disch := omega) only [hds, liveT, cleanAV, cleanCell, clean1, cleanBlk, reduceIte, Int.reduceSub, Int.reduceAdd, Int.reduceNeg]; done) | rfl
    · exact Nat.succ_le_of_lt hlt
    · show l.length - (i + 1) < l.length - i; omega

end Go.Proofs.Ytdhkdnmefeeclaa
set_option linter.unusedSimpArgs false
set_option linter.unusedVariables false
set_option maxRecDepth 100000
set_option maxHeartbeats 4000000
namespace Go.Proofs.Ytdhkdnmefeeclaa
open Go Go.Am Go.Proofs Go.RowKit Go.Off

theorem fitsV_ints (l : List Int) (h : ∀ n ∈ l, -9223372036854775808 ≤ n ∧ n ≤ 9223372036854775807) : FitsV (some (l.map fun n : Int => rawQ (n : Rat))) l.length 2 := by
  refine ⟨by simp [osl], fun r hr => ?_⟩
  obtain ⟨n, hn, rfl⟩ := List.mem_map.1 (show r ∈ l.map fun n : Int => rawQ (n : Rat) from hr)
  exact fits_rawQ (fits_int n (h n hn).1 (h n hn).2)
theorem qAt_some (l : List RR) (i : Nat) : qAt (some l) i = (l.getD i zR).val := rfl
theorem dec14 : dec 14 = [49, 52] := by
  have h := dec_tv (s := [49, 52]) (by simp) (by simp [isDig]) (by simp)
  rwa [show tv [49, 52] = 14 from by decide] at h
theorem awake5_dot : dotV (some [rawQ 1, rawQ 2, rawQ 3]) (some [rawQ 4, rawQ 5]) = 14 := by
  show dotTo _ _ 2 = 14
  simp only [dotTo, List.range_succ, List.range_zero, List.nil_append, List.cons_append, List.foldl_cons, List.foldl_nil, rAt, osl_some, List.getD_cons_zero, List.getD_cons_succ, rawQ_val]
  grind
theorem awake5_sparse : sparseQ (some [rawQ 0, rawQ 7]) = [⟨1, rawQ 7⟩] := by
  show sparseTo _ 2 = _
  have h7 : ¬ (7 : Rat) = 0 := by grind
  simp [sparseTo, List.range_succ, qAt_some, rawQ_val, h7]
theorem awake5_right : rightQ (some [⟨1, rawQ 7⟩]) = true := by
  show rightTo _ 1 = true
  have h7 : ¬ (7 : Rat) = 0 := by grind
  simp [rightTo, List.range_succ, okT, tAt, osl_some, rawQ_val, h7]
theorem awake5_zero : zeroQ (some [rawQ 0, rawQ 1]) = false := by
  show zeroTo _ 2 = false
  have h1 : ¬ (1 : Rat) = 0 := by grind
  simp [zeroTo, List.range_succ, qAt_some, rawQ_val, h1]
theorem litI1 (x : Int) : [[Cell.c (.val (.int .i64 x))]] = encB fI [x] := rfl
theorem litI2 (x y : Int) : [[Cell.c (.val (.int .i64 x))], [Cell.c (.val (.int .i64 y))]] = encB fI [x, y] := rfl
theorem litI3 (x y z : Int) : [[Cell.c (.val (.int .i64 x))], [Cell.c (.val (.int .i64 y))], [Cell.c (.val (.int .i64 z))]] = encB fI [x, y, z] := rfl
theorem text14 : textQ 14 = [49, 52] := by
  have h : decZ (14 : Rat).num = dec 14 := rfl
  have h1 : (14 : Rat).den = 1 := rfl
  unfold textQ
  rw [if_pos h1, h, dec14]

abbrev c27 : CC := (CC.seq (CC.reg [⟨(some 0), none, (COp.mv (Operand.const (Value.bool false)))⟩]) (CC.seq (CC.reg [⟨(some 2), none, (COp.mkrow 3 1 [(Operand.const (Value.int IntKind.i64 (0))), (Operand.const (Value.int IntKind.i64 (7)))])⟩, ⟨(some 3), none, (COp.callf (Operand.func 57) [(Operand.tmp 2)])⟩, ⟨(some 4), none, (COp.callf (Operand.func 28) [(Operand.tmp 3)])⟩, ⟨(some 1), none, (COp.mv (Operand.tmp 4))⟩]) (CC.seq (CC.reg [⟨(some 5), none, (COp.mkrow 3 1 [(Operand.const (Value.int IntKind.i64 (1))), (Operand.const (Value.int IntKind.i64 (2))), (Operand.const (Value.int IntKind.i64 (3)))])⟩, ⟨(some 6), none, (COp.callf (Operand.func 57) [(Operand.tmp 5)])⟩, ⟨(some 7), none, (COp.mkrow 3 1 [(Operand.const (Value.int IntKind.i64 (4))), (Operand.const (Value.int IntKind.i64 (5)))])⟩, ⟨(some 8), none, (COp.callf (Operand.func 57) [(Operand.tmp 7)])⟩, ⟨(some 9), none, (COp.callf (Operand.func 41) [(Operand.tmp 6), (Operand.tmp 8)])⟩, ⟨(some 10), none, (COp.callf (Operand.func 90) [(Operand.tmp 9)])⟩, ⟨(some 11), none, (COp.bin BinOp.eql (Operand.tmp 10) (Operand.const (Value.string ⟨#[49, 52]⟩)))⟩, ⟨(some 12), none, (COp.mv (Operand.tmp 11))⟩, ⟨(some 13), (some (12, true)), (COp.mv (Operand.tmp 1))⟩, ⟨(some 14), (some (12, true)), (COp.len false (Operand.tmp 13))⟩, ⟨(some 15), (some (12, true)), (COp.bin BinOp.eql (Operand.tmp 14) (Operand.const (Value.int IntKind.i64 (1))))⟩, ⟨(some 16), none, (COp.pick (Operand.tmp 12) (Operand.tmp 15) (Operand.const (Value.bool false)))⟩, ⟨(some 17), none, (COp.mv (Operand.tmp 16))⟩, ⟨(some 18), (some (17, true)), (COp.mv (Operand.tmp 1))⟩, ⟨(some 19), (some (17, true)), (COp.iaddr 4 none (Operand.tmp 18) (Operand.const (Value.int IntKind.i64 (0))))⟩, ⟨(some 20), (some (17, true)), (COp.faddr 0 (Operand.tmp 19))⟩, ⟨(some 21), (some (17, true)), (COp.load 1 false (Operand.tmp 20))⟩, ⟨(some 22), (some (17, true)), (COp.bin BinOp.eql (Operand.tmp 21) (Operand.const (Value.int IntKind.i64 (1))))⟩, ⟨(some 23), none, (COp.pick (Operand.tmp 17) (Operand.tmp 22) (Operand.const (Value.bool false)))⟩, ⟨(some 24), none, (COp.mv (Operand.tmp 23))⟩, ⟨(some 25), (some (24, true)), (COp.mv (Operand.tmp 1))⟩, ⟨(some 26), (some (24, true)), (COp.callf (Operand.func 30) [(Operand.tmp 25)])⟩, ⟨(some 27), none, (COp.pick (Operand.tmp 24) (Operand.tmp 26) (Operand.const (Value.bool false)))⟩, ⟨(some 28), none, (COp.mv (Operand.tmp 27))⟩, ⟨(some 29), (some (28, true)), (COp.mkrow 3 1 [(Operand.const (Value.int IntKind.i64 (0))), (Operand.const (Value.int IntKind.i64 (1)))])⟩, ⟨(some 30), (some (28, true)), (COp.callf (Operand.func 57) [(Operand.tmp 29)])⟩, ⟨(some 31), (some (28, true)), (COp.callf (Operand.func 52) [(Operand.tmp 30)])⟩, ⟨(some 32), (some (28, true)), (COp.un UnOp.not (Operand.tmp 31))⟩, ⟨(some 33), none, (COp.pick (Operand.tmp 28) (Operand.tmp 32) (Operand.const (Value.bool false)))⟩, ⟨(some 0), none, (COp.mv (Operand.tmp 33))⟩]) CC.ret)))
theorem cc27 : ccode Try.prog [] (Try.f27.body.getD .skip) = some c27 := by kernel_rfl
theorem body27 : Try.f27.body = some (Try.f27.body.getD .skip) := rfl

theorem awake5_C : PureC Try.prog 27 [] (.ret (aB true)) := by
  have i1 := ints_R [0, 7] (by decide) (by decide)
  have i2 := ints_R [1, 2, 3] (by decide) (by decide)
  have i3 := ints_R [4, 5] (by decide) (by decide)
  have i4 := ints_R [0, 1] (by decide) (by decide)
  change PureC _ _ _ (.ret (aV (some [rawQ 0, rawQ 7]))) at i1
  change PureC _ _ _ (.ret (aV (some [rawQ 1, rawQ 2, rawQ 3]))) at i2
  change PureC _ _ _ (.ret (aV (some [rawQ 4, rawQ 5]))) at i3
  change PureC _ _ _ (.ret (aV (some [rawQ 0, rawQ 1]))) at i4
  have f1 : FitsV (some [rawQ 0, rawQ 7]) 2 2 := fitsV_ints [0, 7] (by decide)
  have f2 : FitsV (some [rawQ 1, rawQ 2, rawQ 3]) 3 2 := fitsV_ints [1, 2, 3] (by decide)
  have f3 : FitsV (some [rawQ 4, rawQ 5]) 2 2 := fitsV_ints [4, 5] (by decide)
  have f4 : FitsV (some [rawQ 0, rawQ 1]) 2 2 := fitsV_ints [0, 1] (by decide)
  have s1 := vsparse_R _ 2 2 f1 (by decide) (by decide)
  rw [awake5_sparse] at s1
  change PureC _ _ _ (.ret (aT (some [⟨1, rawQ 7⟩]))) at s1
  have d1 := dot_C _ _ 3 2 f2 ⟨Nat.le_succ_of_le f3.1, f3.2⟩ (by decide) (by decide) (by decide)
  rw [awake5_dot] at d1
  have t1 := rtext_C (rawQ 14) (fits_rawQ ((fits_int 14 (by decide) (by decide)).mono (by decide)))
  rw [rawQ_val, text14] at t1
  have r1 := vright_C (some [⟨1, rawQ 7⟩]) 1 2 ⟨by decide, fun t ht => by
    have : t = ⟨1, rawQ 7⟩ := by simpa [osl] using ht
    subst this
    exact fits_rawQ (fits_int 7 (by decide) (by decide))⟩ (by decide) (by decide)
  rw [awake5_right] at r1
  have z1 := vzero_C _ 2 2 f4 (by decide) (by decide)
  rw [awake5_zero] at z1
  clear f1 f2 f3 f4
  generalize rawQ 0 = q0 at *
  generalize rawQ 1 = q1 at *
  generalize rawQ 2 = q2 at *
  generalize rawQ 3 = q3 at *
  generalize rawQ 4 = q4 at *
  generalize rawQ 5 = q5 at *
  generalize rawQ 7 = q7 at *
  generalize rawQ 14 = q14 at *
  refine pureC_of (rs := [(RV.tmp 0)]) Try.func27 (fun a w => Try.call27 a w) body27 cc27 (by kernel_rfl) ?_
  rw [Try.ntmps27]
  simp only [frs, Nat.reduceAdd, Nat.reduceSub]
  repeat (first | (with_reducible first | refine zw10 ?_ | refine zw1 ?_ | refine zw4 ?_ | refine zw18 ?_ | refine zw19 ?_ | refine zw11 ?_ | refine zw12 ?_ | refine zw14 ?_ | refine zw2 ?_ | refine zw5 ?_ | refine zw9 ?_ | refine zw13 ?_ | refine zw3 ?_ | refine zw6 ?_ | refine zw8 ?_ | refine zw15 ?_ | refine zw16 ?_ | refine zw17 ?_ | refine blk_o rfl ?_) | ((with_reducible first | refine zb1 mixed (fun K hK => ?_) | refine zb2 (fun K hK => ?_) | refine zb3 (fun K hK => ?_)); simp (disch := first | omega | (simp only [dls]; omega)) only [std, cev, cstep, St.ev, putT, AV.cells?, AV.int?, AV.bool?, AV.str?, readN, mkAV, putN, guardWant, bound, Value.oneCell', opO, putSt, reduceIte, reduceCtorEq, Int.reduceToNat, Nat.reduceAdd, Nat.reduceSub, Nat.reduceMul, Int.reduceAdd, Int.reduceSub, Int.reduceMul, Int.reduceNeg, fU, fT, litI2, litI3, List.getElem_cons_zero, List.getElem_cons_succ]; subst hK) | (apply call_ret (i1) rfl; (case hcl => (simp only [evs, St.ev, constAV, evl]; (repeat (first | exact closeAVs_nil | (apply closeAVs_cons; (first | (apply close_own3; rfl) | rfl)))); done)); (case hf => rfl); (case hu => (simp only [evs, St.ev, constAV, evl]; (repeat (first | exact used_nil | (apply used_cons; (first | (apply used_own3; rfl) | rfl)))); done)); (case hh => ((simp only [fzl, Nat.reduceBEq, Nat.reduceAdd, Bool.false_eq_true, if_true, if_false, reduceIte]) <;> rfl))) | (apply call_ret (i2) rfl; (case hcl => (simp only [evs, St.ev, constAV, evl]; (repeat (first | exact closeAVs_nil | (apply closeAVs_cons; (first | (apply close_own3; rfl) | rfl)))); done)); (case hf => rfl); (case hu => (simp only [evs, St.ev, constAV, evl]; (repeat (first | exact used_nil | (apply used_cons; (first | (apply used_own3; rfl) | rfl)))); done)); (case hh => ((simp only [fzl, Nat.reduceBEq, Nat.reduceAdd, Bool.false_eq_true, if_true, if_false, reduceIte]) <;> rfl))) | (apply call_ret (i3) rfl; (case hcl => (simp only [evs, St.ev, constAV, evl]; (repeat (first | exact closeAVs_nil | (apply closeAVs_cons; (first | (apply close_own3; rfl) | rfl)))); done)); (case hf => rfl); (case hu => (simp only [evs, St.ev, constAV, evl]; (repeat (first | exact used_nil | (apply used_cons; (first | (apply used_own3; rfl) | rfl)))); done)); (case hh => ((simp only [fzl, Nat.reduceBEq, Nat.reduceAdd, Bool.false_eq_true, if_true, if_false, reduceIte]) <;> rfl))) | refine zcA (s1) rfl rfl rfl ?_ | refine zcA (d1) rfl rfl rfl ?_ | refine zcA (t1) rfl rfl rfl ?_ | (apply call_any_g (r1) rfl; (case hg => simp (disch := first | omega | (simp only [dls]; omega)) only [std, cev, cstep, St.ev, putT, AV.cells?, AV.int?, AV.bool?, AV.str?, readN, mkAV, putN, guardWant, bound, Value.oneCell', opO, putSt, reduceIte, reduceCtorEq, Int.reduceToNat, Nat.reduceAdd, Nat.reduceSub, Nat.reduceMul, Int.reduceAdd, Int.reduceSub, Int.reduceMul, Int.reduceNeg, fU, fT, litI2, litI3, List.getElem_cons_zero, List.getElem_cons_succ]); (case hcl => (simp only [evs, St.ev, constAV, evl]; (repeat (first | exact closeAVs_nil | (apply closeAVs_cons; (first | (apply close_own3; rfl) | rfl)))); done)); (case hu => rfl)) | (apply call_ret_g (by simp (disch := first | omega | (simp only [dls]; omega)) only [std, cev, cstep, St.ev, putT, AV.cells?, AV.int?, AV.bool?, AV.str?, readN, mkAV, putN, guardWant, bound, Value.oneCell', opO, putSt, reduceIte, reduceCtorEq, Int.reduceToNat, Nat.reduceAdd, Nat.reduceSub, Nat.reduceMul, Int.reduceAdd, Int.reduceSub, Int.reduceMul, Int.reduceNeg, fU, fT, litI2, litI3, List.getElem_cons_zero, List.getElem_cons_succ]) (i4) rfl; (case hcl => (simp only [evs, St.ev, constAV, evl]; (repeat (first | exact closeAVs_nil | (apply closeAVs_cons; (first | (apply close_own3; rfl) | rfl)))); done)); (case hf => rfl); (case hu => (simp only [evs, St.ev, constAV, evl]; (repeat (first | exact used_nil | (apply used_cons; (first | (apply used_own3; rfl) | rfl)))); done)); (case hh => ((simp only [fzl, Nat.reduceBEq, Nat.reduceAdd, Bool.false_eq_true, if_true, if_false, reduceIte]) <;> rfl))) | (apply call_any_g (z1) rfl; (case hg => simp (disch := first | omega | (simp only [dls]; omega)) only [std, cev, cstep, St.ev, putT, AV.cells?, AV.int?, AV.bool?, AV.str?, readN, mkAV, putN, guardWant, bound, Value.oneCell', opO, putSt, reduceIte, reduceCtorEq, Int.reduceToNat, Nat.reduceAdd, Nat.reduceSub, Nat.reduceMul, Int.reduceAdd, Int.reduceSub, Int.reduceMul, Int.reduceNeg, fU, fT, litI2, litI3, List.getElem_cons_zero, List.getElem_cons_succ]); (case hcl => (simp only [evs, St.ev, constAV, evl]; (repeat (first | exact closeAVs_nil | (apply closeAVs_cons; (first | (apply close_own3; rfl) | rfl)))); done)); (case hu => rfl)))
  exact ⟨_, rfl, rfl⟩

end Go.Proofs.Ytdhkdnmefeeclaa
set_option linter.unusedSimpArgs false
set_option linter.unusedVariables false
set_option maxRecDepth 100000
set_option maxHeartbeats 4000000
namespace Go.Proofs.Ytdhkdnmefeeclaa
open Go Go.Am Go.Proofs Go.RowKit Go.Off

theorem rd_u32 : Reads Try.prog 183 (fun l => ∃ d : UInt32, True ∧ l = fU d) := reads_mono (reads_int Try.underlying183) (by
  rintro l ⟨n, hw, rfl⟩
  have hb : 0 ≤ n ∧ n ≤ 4294967295 := by simpa [Lit.wf, IntKind.min, IntKind.max, IntKind.signed, IntKind.bits] using hw
  refine ⟨UInt32.ofNat n.toNat, trivial, ?_⟩
  have : (UInt32.ofNat n.toNat).toNat = n.toNat := by simp [UInt32.toNat_ofNat, Nat.mod_eq_of_lt (show n.toNat < 4294967296 by omega)]
  simp only [fU, this]
  rw [Int.toNat_of_nonneg hb.1])
theorem rd_nat : Reads Try.prog 36 (fun l => ∃ r : Row, l = [nr r]) := reads_mono (reads_slice (k := 1) Try.underlying36 (by kernel_rfl) (by decide) (fun a => rfl) rd_u32) (by
  rintro l ⟨s, _, rfl⟩
  exact ⟨s, rfl⟩)
theorem rd_bool : Reads Try.prog 4 (fun l => ∃ b : Bool, l = [.val (.bool b)]) := reads_bool Try.underlying4
theorem rd_int : Reads Try.prog 3 (fun l => ∃ n : Int, (-9223372036854775808 ≤ n ∧ n ≤ 9223372036854775807) ∧ l = [.val (.int .i64 n)]) := reads_mono (reads_int Try.underlying3) (by
  rintro l ⟨n, hw, rfl⟩
  exact ⟨n, by simpa [Lit.wf, IntKind.min, IntKind.max, IntKind.signed, IntKind.bits] using hw, rfl⟩)
theorem rd_whole : Reads Try.prog 38 (fun l => ∃ (b : Bool) (r : Row), l = [.val (.bool b), nr r]) := reads_mono (reads_struct2 (c0 := 1) (c1 := 1) Try.underlying38 rfl (by kernel_rfl) rfl (by kernel_rfl) (by kernel_rfl) rd_bool rd_nat) (by
  rintro l ⟨l0, l1, ⟨b, rfl⟩, ⟨r, rfl⟩, rfl⟩
  exact ⟨b, r, rfl⟩)
theorem rd_rat : Reads Try.prog 40 (fun l => ∃ r : RR, True ∧ l = fR r) := reads_mono (reads_struct2 (c0 := 2) (c1 := 1) Try.underlying40 rfl (by kernel_rfl) rfl (by kernel_rfl) (by kernel_rfl) rd_whole rd_nat) (by
  rintro l ⟨l0, l1, ⟨b, s, rfl⟩, ⟨d, rfl⟩, rfl⟩
  exact ⟨⟨b, s, d⟩, trivial, rfl⟩)
theorem rd_vec : Reads Try.prog 22 (fun l => ∃ a : VV, l = [vr a]) := reads_mono (reads_slice (k := 3) Try.underlying22 (by kernel_rfl) (by decide) (fun a => rfl) rd_rat) (by
  rintro l ⟨s, _, rfl⟩
  exact ⟨s, rfl⟩)
theorem rd_term : Reads Try.prog 42 (fun l => ∃ t : TT, (-9223372036854775808 ≤ t.at' ∧ t.at' ≤ 9223372036854775807) ∧ l = fT t) := reads_mono (reads_struct2 (c0 := 1) (c1 := 3) Try.underlying42 rfl (by kernel_rfl) rfl (by kernel_rfl) (by kernel_rfl) rd_int rd_rat) (by
  rintro l ⟨l0, l1, ⟨n, hn, rfl⟩, ⟨r, _, rfl⟩, rfl⟩
  exact ⟨⟨n, r⟩, hn, rfl⟩)
theorem rd_terms : Reads Try.prog 25 (fun l => ∃ a : TV, (∀ t ∈ osl a, -9223372036854775808 ≤ t.at' ∧ t.at' ≤ 9223372036854775807) ∧ l = [encSl 4 fT a]) := reads_mono (reads_slice (k := 4) Try.underlying25 (by kernel_rfl) (by decide) (fun a => rfl) rd_term) (by
  rintro l ⟨s, hs, rfl⟩
  exact ⟨s, hs.1, rfl⟩)

end Go.Proofs.Ytdhkdnmefeeclaa
