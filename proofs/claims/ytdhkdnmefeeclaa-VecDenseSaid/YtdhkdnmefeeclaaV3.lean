/- Walks of vec: Sparse. -/
import Derived.Test.YtdhkdnmefeeclaaA5
import Derived.Test.YtdhkdnmefeeclaaV2
set_option linter.unusedSimpArgs false
set_option linter.unusedVariables false
set_option linter.unnecessarySimpa false
set_option linter.unusedSimpArgs false
set_option linter.unusedVariables false
set_option maxRecDepth 100000
set_option maxHeartbeats 4000000
namespace Go.Proofs.Ytdhkdnmefeeclaa
open Go Go.Am Go.Proofs Go.RowKit Go.Off

theorem encB_snoc_term (l : List TT) (i : Nat) (r : RR) : encB fT l ++ [[Cell.c (.val (.int .i64 (i : Int))), Cell.c (.val (.bool r.minus)), Cell.c (nr r.size), Cell.c (nr r.den)]] = encB fT (l ++ [⟨(i : Int), r⟩]) := by simp [encB, fT]
/-- The sparse row, of what is not 0. -/
def sparseTo (a : VV) (k : Nat) : List TT := (List.range k).filterMap fun i => if qAt a i = 0 then none else some ⟨(i : Int), rawQ (qAt a i)⟩
def sparseQ (a : VV) : List TT := sparseTo a (osl a).length
theorem sparseTo_zero (a : VV) (k : Nat) (h : qAt a k = 0) : sparseTo a (k + 1) = sparseTo a k := by
  unfold sparseTo; rw [List.range_succ, List.filterMap_append]; simp [h]
theorem sparseTo_more (a : VV) (k : Nat) (h : qAt a k ≠ 0) : sparseTo a (k + 1) = sparseTo a k ++ [⟨(k : Int), rawQ (qAt a k)⟩] := by
  unfold sparseTo; rw [List.range_succ, List.filterMap_append]; simp [h]
theorem sparseTo_len (a : VV) (k : Nat) : (sparseTo a k).length ≤ k := by
  unfold sparseTo
  have := List.length_filterMap_le (fun i => if qAt a i = 0 then none else some (⟨(i : Int), rawQ (qAt a i)⟩ : TT)) (List.range k)
  simpa using this

abbrev c28_k1 : CC := (CC.seq (CC.reg [⟨(some 27), none, (COp.mv (Operand.tmp 3))⟩, ⟨(some 2), none, (COp.mv (Operand.tmp 27))⟩]) CC.ret)
abbrev c28_b1 : CC := (CC.seq (CC.reg [⟨(some 9), none, (COp.bin BinOp.lss (Operand.tmp 8) (Operand.tmp 7))⟩]) (CC.seq (CC.cond (Operand.tmp 9) CC.skip (CC.exit 0)) (CC.seq (CC.block 1 (CC.seq (CC.reg [⟨(some 10), none, (COp.mv (Operand.tmp 8))⟩, ⟨(some 11), none, (COp.iaddr 3 none (Operand.tmp 6) (Operand.tmp 8))⟩, ⟨(some 12), none, (COp.load 3 true (Operand.tmp 11))⟩, ⟨(some 5), none, (COp.new 40 [(Value.bool false), (Value.slice none 0 0), (Value.slice none 0 0)])⟩, ⟨(some 4), none, (COp.mv (Operand.tmp 10))⟩, ⟨none, none, (COp.store 3 (Operand.tmp 5) (Operand.tmp 12))⟩]) (CC.seq (CC.reg [⟨(some 13), none, (COp.load 3 true (Operand.tmp 5))⟩, ⟨(some 14), none, (COp.callf (Operand.func 33) [(Operand.tmp 13)])⟩, ⟨(some 15), none, (COp.bin BinOp.neq (Operand.tmp 14) (Operand.const (Value.int IntKind.i64 (0))))⟩]) (CC.cond (Operand.tmp 15) (CC.reg [⟨(some 16), none, (COp.mv (Operand.tmp 3))⟩, ⟨(some 17), none, (COp.mv (Operand.tmp 4))⟩, ⟨(some 18), none, (COp.faddr 0 (Operand.tmp 5))⟩, ⟨(some 19), none, (COp.load 2 true (Operand.tmp 18))⟩, ⟨(some 20), none, (COp.faddr 2 (Operand.tmp 5))⟩, ⟨(some 21), none, (COp.load 1 false (Operand.tmp 20))⟩, ⟨(some 22), none, (COp.callf (Operand.func 91) [(Operand.tmp 19), (Operand.tmp 21)])⟩, ⟨(some 23), none, (COp.build [(Value.int IntKind.i64 (0)), (Value.bool false), (Value.slice none 0 0), (Value.slice none 0 0)] [(0, (1, (Operand.tmp 17))), (1, (3, (Operand.tmp 22)))])⟩, ⟨(some 24), none, (COp.mkrow 42 4 [(Operand.tmp 23)])⟩, ⟨(some 25), none, (COp.append 42 4 64 (Operand.tmp 16) (Operand.tmp 24))⟩, ⟨(some 3), none, (COp.mv (Operand.tmp 25))⟩]) CC.skip)))) (CC.reg [⟨(some 26), none, (COp.bin BinOp.add (Operand.tmp 8) (Operand.const (Value.int IntKind.i64 (1))))⟩, ⟨(some 8), none, (COp.mv (Operand.tmp 26))⟩]))))
abbrev c28 : CC := (CC.seq (CC.reg [⟨(some 2), none, (COp.mv (Operand.const (Value.slice none 0 0)))⟩]) (CC.seq (CC.reg [⟨(some 3), none, (COp.mv (Operand.const (Value.slice none 0 0)))⟩]) (CC.seq (CC.seq (CC.reg [⟨(some 6), none, (COp.mv (Operand.tmp 0))⟩, ⟨(some 7), none, (COp.len false (Operand.tmp 6))⟩, ⟨(some 8), none, (COp.mv (Operand.const (Value.int IntKind.i64 (0))))⟩]) (CC.block 0 (CC.loop c28_b1))) c28_k1)))
theorem cc28 : ccode Try.prog [] (Try.f28.body.getD .skip) = some c28 := by kernel_rfl
theorem body28 : Try.f28.body = some (Try.f28.body.getD .skip) := rfl

theorem vsparse_C (a : VV) (n L : Nat) (ha : FitsV a n L) (hn : n ≤ 1000000) (hL2 : L ≤ 1000000) :
    PureC Try.prog 28 [aV a] (.fresh 42 4 ((sparseQ a).map fT) (!(sparseQ a).isEmpty)) := by
  have ha1 := ha.1
  unfold sparseQ
  refine pureC_of (rs := [(RV.tmp 2)]) Try.func28 (fun a w => Try.call28 a w) body28 cc28 (by kernel_rfl) ?_
  rw [Try.ntmps28]
  simp only [frs, Nat.reduceAdd, Nat.reduceSub]
  repeat (first | (with_reducible first | refine zw10 ?_ | refine zw1 ?_ | refine zw4 ?_ | refine zw18 ?_ | refine zw19 ?_ | refine zw11 ?_ | refine zw12 ?_ | refine zw14 ?_ | refine zw2 ?_ | refine zw5 ?_ | refine zw9 ?_ | refine zw13 ?_ | refine zw3 ?_ | refine zw6 ?_ | refine zw8 ?_ | refine zw15 ?_ | refine zw16 ?_ | refine zw17 ?_ | refine blk_o rfl ?_) | ((with_reducible first | refine zb1 mixed (fun K hK => ?_) | refine zb2 (fun K hK => ?_) | refine zb3 (fun K hK => ?_)); simp (disch := first | omega | (simp only [dls]; omega)) only [std, cev, cstep, St.ev, putT, AV.cells?, AV.int?, AV.bool?, AV.str?, readN, mkAV, putN, guardWant, bound, Value.oneCell', opO, putSt, reduceIte, reduceCtorEq, Int.reduceToNat, Nat.reduceAdd, Nat.reduceSub, Nat.reduceMul, Int.reduceAdd, Int.reduceSub, Int.reduceMul, Int.reduceNeg, fU]; subst hK))
  refine AWp.fgt ?_ (Fgt.openNil (i := 3) rfl 42 4)
  simp only [List.set_cons_succ, List.set_cons_zero, List.length_nil, List.length_cons, List.nil_append, List.cons_append, Nat.reduceAdd]
  refine awp_loop (fun (zz : Nat × (List TT) × Nat × Bool) => ⟨(aV a :: .junk :: .one (.c (.val (.slice none 0 0))) :: .one (.own 0 zz.2.2.1) :: .junk :: .junk :: aV a :: aI (osl a).length :: aI zz.1 :: .junk :: .junk :: .junk :: .junk :: .junk :: .junk :: .junk :: .junk :: .junk :: .junk :: .junk :: .junk :: .junk :: .junk :: .junk :: .junk :: .junk :: .junk :: .junk :: []), [⟨zz.2.2.1, 42, 4, encB fT zz.2.1, true, zz.2.2.2⟩]⟩) (fun (zz : Nat × (List TT) × Nat × Bool) => zz.1 ≤ (osl a).length ∧ zz.2.1 = sparseTo a zz.1 ∧ zz.2.2.2 = !zz.2.1.isEmpty) (fun (zz : Nat × (List TT) × Nat × Bool) => (osl a).length - zz.1) (0, [], 0, false) ?hI1 (Fgt.head (Nat.zero_le 1) [true, false, true, true, false, false, true, true, true] ?hT1 ?hH1) ?hB1
  case hT1 => first | (simp (disch := omega) only [hds, liveT, cleanAV, cleanCell, clean1, cleanBlk, reduceIte, Int.reduceSub, Int.reduceAdd, Int.reduceNeg, encB_nil]; done) | rfl
  case hH1 => first | (simp (disch := omega) only [hds, liveT, cleanAV, cleanCell, clean1, cleanBlk, reduceIte, Int.reduceSub, Int.reduceAdd, Int.reduceNeg, encB_nil]; done) | rfl
  · dsimp only; exact ⟨by omega, rfl, rfl⟩
  rintro ⟨i, out, v, nn⟩ ⟨hi, ho, hnn⟩
  dsimp only at hi ho hnn
  have hol : out.length ≤ i := by rw [ho]; exact sparseTo_len a i
  by_cases him : i = (osl a).length
  · repeat (first | (with_reducible first | refine zw10 ?_ | refine zw1 ?_ | refine zw4 ?_ | refine zw18 ?_ | refine zw19 ?_ | refine zw11 ?_ | refine zw12 ?_ | refine zw14 ?_ | refine zw2 ?_ | refine zw5 ?_ | refine zw9 ?_ | refine zw13 ?_ | refine zw3 ?_ | refine zw6 ?_ | refine zw8 ?_ | refine zw15 ?_ | refine zw16 ?_ | refine zw17 ?_ | refine blk_o rfl ?_) | ((with_reducible first | refine zb1 mixed (fun K hK => ?_) | refine zb2 (fun K hK => ?_) | refine zb3 (fun K hK => ?_)); simp (disch := first | omega | (simp only [dls]; omega)) only [std, cev, cstep, St.ev, putT, AV.cells?, AV.int?, AV.bool?, AV.str?, readN, mkAV, putN, guardWant, bound, Value.oneCell', opO, putSt, reduceIte, reduceCtorEq, Int.reduceToNat, Nat.reduceAdd, Nat.reduceSub, Nat.reduceMul, Int.reduceAdd, Int.reduceSub, Int.reduceMul, Int.reduceNeg, fU]; subst hK))
    refine ⟨_, rfl, ?_⟩
    rw [← him, ← ho, ← hnn]
    exact Ends.fresh_enc rfl
  · have hlt : i < (osl a).length := by omega
    have fi := ha.2 _ (List.getElem_mem hlt)
    have hsg := rsign_C (osl a)[i] (fi.mono (by omega))
    have hmk := rmake_C (RRnum (osl a)[i]) (osl a)[i].den (Nat.le_trans fi.1 (by omega)) (Nat.le_trans fi.2 (by omega))
    rw [num_top, denR_bot] at hmk
    change PureC _ _ _ (.ret (aR (rawQ (osl a)[i].val))) at hmk
    have hq : qAt a i = (osl a)[i].val := by unfold qAt; rw [rAt_in hlt]
    have hg := (sgn_zero_iff (osl a)[i].top).trans (top_zero (osl a)[i])
    by_cases hv : (osl a)[i].val = 0
    · rw [hg.2 hv] at hsg
      repeat (first | (with_reducible first | refine zw10 ?_ | refine zw1 ?_ | refine zw4 ?_ | refine zw18 ?_ | refine zw19 ?_ | refine zw11 ?_ | refine zw12 ?_ | refine zw14 ?_ | refine zw2 ?_ | refine zw5 ?_ | refine zw9 ?_ | refine zw13 ?_ | refine zw3 ?_ | refine zw6 ?_ | refine zw8 ?_ | refine zw15 ?_ | refine zw16 ?_ | refine zw17 ?_ | refine blk_o rfl ?_) | ((with_reducible first | refine zb1 mixed (fun K hK => ?_) | refine zb2 (fun K hK => ?_) | refine zb3 (fun K hK => ?_)); simp (disch := first | omega | (simp only [dls]; omega)) only [std, cev, cstep, St.ev, putT, AV.cells?, AV.int?, AV.bool?, AV.str?, readN, mkAV, putN, guardWant, bound, Value.oneCell', opO, putSt, reduceIte, reduceCtorEq, Int.reduceToNat, Nat.reduceAdd, Nat.reduceSub, Nat.reduceMul, Int.reduceAdd, Int.reduceSub, Int.reduceMul, Int.reduceNeg, fU, fR]; subst hK) | refine zcA (hsg) rfl rfl rfl ?_)
      refine ⟨(i + 1, out, v, nn), ?hI2, ?hM2, Fgt.head (Nat.zero_le 1) [true, false, true, true, false, false, true, true, true] ?hT2 ?hH2⟩
      case hT2 => first | (simp (disch := omega) only [hds, liveT, cleanAV, cleanCell, clean1, cleanBlk, reduceIte, Int.reduceSub, Int.reduceAdd, Int.reduceNeg]; done) | rfl
      case hH2 => first | (simp (disch := omega) only [hds, liveT, cleanAV, cleanCell, clean1, cleanBlk, reduceIte, Int.reduceSub, Int.reduceAdd, Int.reduceNeg]; done) | rfl
      · dsimp only; exact ⟨by omega, by rw [ho, sparseTo_zero a i (by rw [hq]; exact hv)], hnn⟩
      · dsimp only; omega
    · have hne := fun e => hv (hg.1 e)
      generalize sgn (osl a)[i].top = sg at hsg hne
      repeat (first | (with_reducible first | refine zw10 ?_ | refine zw1 ?_ | refine zw4 ?_ | refine zw18 ?_ | refine zw19 ?_ | refine zw11 ?_ | refine zw12 ?_ | refine zw14 ?_ | refine zw2 ?_ | refine zw5 ?_ | refine zw9 ?_ | refine zw13 ?_ | refine zw3 ?_ | refine zw6 ?_ | refine zw8 ?_ | refine zw15 ?_ | refine zw16 ?_ | refine zw17 ?_ | refine blk_o rfl ?_) | ((with_reducible first | refine zb1 mixed (fun K hK => ?_) | refine zb2 (fun K hK => ?_) | refine zb3 (fun K hK => ?_)); simp (disch := first | omega | (simp only [dls]; omega)) only [std, cev, cstep, St.ev, putT, AV.cells?, AV.int?, AV.bool?, AV.str?, readN, mkAV, putN, guardWant, bound, Value.oneCell', opO, putSt, reduceIte, reduceCtorEq, Int.reduceToNat, Nat.reduceAdd, Nat.reduceSub, Nat.reduceMul, Int.reduceAdd, Int.reduceSub, Int.reduceMul, Int.reduceNeg, fU, fR]; subst hK) | refine zcA (hsg) rfl rfl rfl ?_ | refine zcA (hmk) rfl rfl rfl ?_)
      refine ⟨(i + 1, out ++ [⟨(i : Int), rawQ (osl a)[i].val⟩], v + 1, true), ?hI3, ?hM3, Fgt.head (Nat.zero_le 1) [true, false, true, true, false, false, true, true, true] ?hT3 ?hH3⟩
      case hT3 => first | (simp (disch := omega) only [hds, liveT, cleanAV, cleanCell, clean1, cleanBlk, reduceIte, Int.reduceSub, Int.reduceAdd, Int.reduceNeg, encB_snoc_term, List.isEmpty_cons, Bool.or_true, Bool.not_false]; done) | rfl
      case hH3 => first | (simp (disch := omega) only [hds, liveT, cleanAV, cleanCell, clean1, cleanBlk, reduceIte, Int.reduceSub, Int.reduceAdd, Int.reduceNeg, encB_snoc_term, List.isEmpty_cons, Bool.or_true, Bool.not_false]; done) | rfl
      · dsimp only
        refine ⟨by omega, ?_, by simp⟩
        rw [ho, sparseTo_more a i (by rw [hq]; exact hv), hq]
      · dsimp only; omega

end Go.Proofs.Ytdhkdnmefeeclaa
set_option linter.unusedSimpArgs false
set_option linter.unusedVariables false
set_option maxRecDepth 100000
set_option maxHeartbeats 4000000
namespace Go.Proofs.Ytdhkdnmefeeclaa
open Go Go.Am Go.Proofs Go.RowKit Go.Off

theorem repI (n : Nat) : List.replicate n [Cell.c (.val (.int .i64 0))] = encB fI (List.replicate n 0) := by rw [encB_replicate]; rfl
theorem setR (l : List RR) (i : Nat) (r : RR) : (encB fR l).set i [Cell.c (.val (.bool r.minus)), Cell.c (nr r.size), Cell.c (nr r.den)] = encB fR (l.set i r) := encB_set l i r
def denseTo (a : TV) (m k : Nat) : List RR := (List.range k).foldl (fun d i => d.set (tAt a i).at'.toNat (rawQ (tAt a i).v.val)) (List.replicate m (rawQ 0))
theorem denseTo_succ (a : TV) (m k : Nat) : denseTo a m (k + 1) = (denseTo a m k).set (tAt a k).at'.toNat (rawQ (tAt a k).v.val) := by
  unfold denseTo; rw [List.range_succ, List.foldl_append]; rfl
theorem denseTo_len (a : TV) (m k : Nat) : (denseTo a m k).length = m := by
  induction k with
  | zero => simp [denseTo]
  | succ k ih => rw [denseTo_succ, List.length_set, ih]
def denseOk (a : TV) (long : Int) : Bool := rightQ a && (decide (0 ≤ long) && (decide (long ≤ 65536) && (decide ((osl a).length = 0) || decide ((tAt a ((osl a).length - 1)).at' < long))))

theorem right_at {a : TV} (h : rightQ a = true) {i : Nat} (hi : i < (osl a).length) : okT a i = true := List.all_eq_true.1 h i (List.mem_range.2 hi)
theorem right_nn {a : TV} (h : rightQ a = true) {i : Nat} (hi : i < (osl a).length) : 0 ≤ (tAt a i).at' := by
  have := right_at h hi
  unfold okT at this
  simp only [Bool.and_eq_true, decide_eq_true_eq] at this
  exact this.1.1
theorem right_step {a : TV} (h : rightQ a = true) {i : Nat} (hi : i + 1 < (osl a).length) : (tAt a i).at' < (tAt a (i + 1)).at' := by
  have := right_at h hi
  unfold okT at this
  simp only [Bool.and_eq_true, Bool.or_eq_true, decide_eq_true_eq] at this
  rcases this.1.2 with h0 | h0
  · omega
  · simpa using h0
theorem right_lt {a : TV} (h : rightQ a = true) {i j : Nat} (hij : i < j) (hj : j < (osl a).length) : (tAt a i).at' < (tAt a j).at' := by
  induction j with
  | zero => omega
  | succ j ih =>
    have := right_step h hj
    by_cases he : i = j
    · rw [he]; exact this
    · have := ih (by omega) (by omega); omega

abbrev c29_k1 : CC := (CC.seq (CC.reg [⟨(some 57), none, (COp.mv (Operand.tmp 6))⟩, ⟨(some 4), none, (COp.mv (Operand.tmp 57))⟩, ⟨(some 5), none, (COp.mv (Operand.const (Value.bool true)))⟩]) CC.ret)
abbrev c29_b1 : CC := (CC.seq (CC.reg [⟨(some 42), none, (COp.bin BinOp.lss (Operand.tmp 41) (Operand.tmp 40))⟩]) (CC.seq (CC.cond (Operand.tmp 42) CC.skip (CC.exit 0)) (CC.seq (CC.block 1 (CC.seq (CC.reg [⟨(some 43), none, (COp.iaddr 4 none (Operand.tmp 39) (Operand.tmp 41))⟩, ⟨(some 44), none, (COp.load 4 true (Operand.tmp 43))⟩, ⟨(some 8), none, (COp.new 42 [(Value.int IntKind.i64 (0)), (Value.bool false), (Value.slice none 0 0), (Value.slice none 0 0)])⟩, ⟨none, none, (COp.store 4 (Operand.tmp 8) (Operand.tmp 44))⟩]) (CC.reg [⟨(some 45), none, (COp.mv (Operand.tmp 6))⟩, ⟨(some 46), none, (COp.faddr 0 (Operand.tmp 8))⟩, ⟨(some 47), none, (COp.load 1 false (Operand.tmp 46))⟩, ⟨(some 48), none, (COp.faddr 1 (Operand.tmp 8))⟩, ⟨(some 49), none, (COp.faddr 0 (Operand.tmp 48))⟩, ⟨(some 50), none, (COp.load 2 true (Operand.tmp 49))⟩, ⟨(some 51), none, (COp.faddr 1 (Operand.tmp 8))⟩, ⟨(some 52), none, (COp.faddr 2 (Operand.tmp 51))⟩, ⟨(some 53), none, (COp.load 1 false (Operand.tmp 52))⟩, ⟨(some 54), none, (COp.callf (Operand.func 91) [(Operand.tmp 50), (Operand.tmp 53)])⟩, ⟨(some 55), none, (COp.iaddr 3 none (Operand.tmp 45) (Operand.tmp 47))⟩, ⟨none, none, (COp.store 3 (Operand.tmp 55) (Operand.tmp 54))⟩]))) (CC.reg [⟨(some 56), none, (COp.bin BinOp.add (Operand.tmp 41) (Operand.const (Value.int IntKind.i64 (1))))⟩, ⟨(some 41), none, (COp.mv (Operand.tmp 56))⟩]))))
abbrev c29 : CC := (CC.seq (CC.reg [⟨(some 4), none, (COp.mv (Operand.const (Value.slice none 0 0)))⟩, ⟨(some 5), none, (COp.mv (Operand.const (Value.bool false)))⟩]) (CC.seq (CC.seq (CC.reg [⟨(some 9), none, (COp.mv (Operand.tmp 0))⟩, ⟨(some 10), none, (COp.callf (Operand.func 30) [(Operand.tmp 9)])⟩, ⟨(some 11), none, (COp.un UnOp.not (Operand.tmp 10))⟩, ⟨(some 12), none, (COp.mv (Operand.tmp 11))⟩, ⟨(some 13), (some (12, false)), (COp.mv (Operand.tmp 1))⟩, ⟨(some 14), (some (12, false)), (COp.bin BinOp.lss (Operand.tmp 13) (Operand.const (Value.int IntKind.i64 (0))))⟩, ⟨(some 15), none, (COp.pick (Operand.tmp 12) (Operand.const (Value.bool true)) (Operand.tmp 14))⟩, ⟨(some 16), none, (COp.mv (Operand.tmp 15))⟩, ⟨(some 17), (some (16, false)), (COp.mv (Operand.tmp 1))⟩, ⟨(some 18), (some (16, false)), (COp.bin BinOp.gtr (Operand.tmp 17) (Operand.const (Value.int IntKind.i64 (65536))))⟩, ⟨(some 19), none, (COp.pick (Operand.tmp 16) (Operand.const (Value.bool true)) (Operand.tmp 18))⟩, ⟨(some 20), none, (COp.mv (Operand.tmp 19))⟩, ⟨(some 21), (some (20, false)), (COp.mv (Operand.tmp 0))⟩, ⟨(some 22), (some (20, false)), (COp.len false (Operand.tmp 21))⟩, ⟨(some 23), (some (20, false)), (COp.bin BinOp.gtr (Operand.tmp 22) (Operand.const (Value.int IntKind.i64 (0))))⟩, ⟨(some 24), (some (20, false)), (COp.mv (Operand.tmp 23))⟩, ⟨(some 25), (some (24, true)), (COp.mv (Operand.tmp 0))⟩, ⟨(some 26), (some (24, true)), (COp.mv (Operand.tmp 0))⟩, ⟨(some 27), (some (24, true)), (COp.len false (Operand.tmp 26))⟩, ⟨(some 28), (some (24, true)), (COp.bin BinOp.sub (Operand.tmp 27) (Operand.const (Value.int IntKind.i64 (1))))⟩, ⟨(some 29), (some (24, true)), (COp.iaddr 4 none (Operand.tmp 25) (Operand.tmp 28))⟩, ⟨(some 30), (some (24, true)), (COp.faddr 0 (Operand.tmp 29))⟩, ⟨(some 31), (some (24, true)), (COp.load 1 false (Operand.tmp 30))⟩, ⟨(some 32), (some (24, true)), (COp.mv (Operand.tmp 1))⟩, ⟨(some 33), (some (24, true)), (COp.bin BinOp.geq (Operand.tmp 31) (Operand.tmp 32))⟩, ⟨(some 34), (some (20, false)), (COp.pick (Operand.tmp 24) (Operand.tmp 33) (Operand.const (Value.bool false)))⟩, ⟨(some 35), none, (COp.pick (Operand.tmp 20) (Operand.const (Value.bool true)) (Operand.tmp 34))⟩]) (CC.cond (Operand.tmp 35) (CC.seq (CC.reg [⟨(some 4), none, (COp.mv (Operand.const (Value.slice none 0 0)))⟩, ⟨(some 5), none, (COp.mv (Operand.const (Value.bool false)))⟩]) CC.ret) CC.skip)) (CC.seq (CC.reg [⟨(some 36), none, (COp.mv (Operand.tmp 1))⟩, ⟨(some 37), none, (COp.make 3 1 8 [(Value.int IntKind.i64 (0))] (Operand.tmp 36) (Operand.tmp 36))⟩, ⟨(some 38), none, (COp.callf (Operand.func 57) [(Operand.tmp 37)])⟩, ⟨(some 6), none, (COp.mv (Operand.tmp 38))⟩]) (CC.seq (CC.seq (CC.reg [⟨(some 39), none, (COp.mv (Operand.tmp 0))⟩, ⟨(some 40), none, (COp.len false (Operand.tmp 39))⟩, ⟨(some 41), none, (COp.mv (Operand.const (Value.int IntKind.i64 (0))))⟩]) (CC.block 0 (CC.loop c29_b1))) c29_k1))))
theorem cc29 : ccode Try.prog [] (Try.f29.body.getD .skip) = some c29 := by kernel_rfl
theorem body29 : Try.f29.body = some (Try.f29.body.getD .skip) := rfl

theorem vdense_no (a : TV) (long : Int) (n L : Nat) (ha : FitsT a n L) (hn : n ≤ 1000000) (hL2 : L ≤ 1000000) (hk : denseOk a long = false) :
    PureC Try.prog 29 [aT a, aI long] (.ret (.tup [aV none, aB false])) := by
  have ha1 := ha.1
  have hr := vright_C a n L ha hn hL2
  unfold denseOk at hk
  by_cases h0 : rightQ a = true
  · rw [h0] at hr hk
    by_cases h1 : long < 0
    · refine pureC_of (rs := [(RV.tmp 4), (RV.tmp 5)]) Try.func29 (fun a w => Try.call29 a w) body29 cc29 (by kernel_rfl) ?_
      rw [Try.ntmps29]
      simp only [frs, Nat.reduceAdd, Nat.reduceSub]
      repeat (first | (with_reducible first | refine zw10 ?_ | refine zw1 ?_ | refine zw4 ?_ | refine zw18 ?_ | refine zw19 ?_ | refine zw11 ?_ | refine zw12 ?_ | refine zw14 ?_ | refine zw2 ?_ | refine zw5 ?_ | refine zw9 ?_ | refine zw13 ?_ | refine zw3 ?_ | refine zw6 ?_ | refine zw8 ?_ | refine zw15 ?_ | refine zw16 ?_ | refine zw17 ?_ | refine blk_o rfl ?_) | ((with_reducible first | refine zb1 mixed (fun K hK => ?_) | refine zb2 (fun K hK => ?_) | refine zb3 (fun K hK => ?_)); simp (disch := first | omega | (simp only [dls]; omega)) only [std, cev, cstep, St.ev, putT, AV.cells?, AV.int?, AV.bool?, AV.str?, readN, mkAV, putN, guardWant, bound, Value.oneCell', opO, putSt, reduceIte, reduceCtorEq, Int.reduceToNat, Nat.reduceAdd, Nat.reduceSub, Nat.reduceMul, Int.reduceAdd, Int.reduceSub, Int.reduceMul, Int.reduceNeg, fU]; subst hK) | refine zcA (hr) rfl rfl rfl ?_)
      exact ⟨_, rfl, rfl⟩
    · by_cases h2 : 65536 < long
      · refine pureC_of (rs := [(RV.tmp 4), (RV.tmp 5)]) Try.func29 (fun a w => Try.call29 a w) body29 cc29 (by kernel_rfl) ?_
        rw [Try.ntmps29]
        simp only [frs, Nat.reduceAdd, Nat.reduceSub]
        repeat (first | (with_reducible first | refine zw10 ?_ | refine zw1 ?_ | refine zw4 ?_ | refine zw18 ?_ | refine zw19 ?_ | refine zw11 ?_ | refine zw12 ?_ | refine zw14 ?_ | refine zw2 ?_ | refine zw5 ?_ | refine zw9 ?_ | refine zw13 ?_ | refine zw3 ?_ | refine zw6 ?_ | refine zw8 ?_ | refine zw15 ?_ | refine zw16 ?_ | refine zw17 ?_ | refine blk_o rfl ?_) | ((with_reducible first | refine zb1 mixed (fun K hK => ?_) | refine zb2 (fun K hK => ?_) | refine zb3 (fun K hK => ?_)); simp (disch := first | omega | (simp only [dls]; omega)) only [std, cev, cstep, St.ev, putT, AV.cells?, AV.int?, AV.bool?, AV.str?, readN, mkAV, putN, guardWant, bound, Value.oneCell', opO, putSt, reduceIte, reduceCtorEq, Int.reduceToNat, Nat.reduceAdd, Nat.reduceSub, Nat.reduceMul, Int.reduceAdd, Int.reduceSub, Int.reduceMul, Int.reduceNeg, fU]; subst hK) | refine zcA (hr) rfl rfl rfl ?_)
        exact ⟨_, rfl, rfl⟩
      · rw [decide_eq_true (by omega : 0 ≤ long), decide_eq_true (by omega : long ≤ 65536)] at hk
        simp only [Bool.true_and, Bool.or_eq_false_iff, decide_eq_false_iff_not] at hk
        have hpl : (osl a).length - 1 < (osl a).length := by omega
        have hpi : (((osl a).length : Int) - 1).toNat = (osl a).length - 1 := by omega
        have hge : long ≤ ((osl a)[(osl a).length - 1]).at' := by have := hk.2; rw [tAt_in hpl] at this; omega
        have hlen := hk.1
        refine pureC_of (rs := [(RV.tmp 4), (RV.tmp 5)]) Try.func29 (fun a w => Try.call29 a w) body29 cc29 (by kernel_rfl) ?_
        rw [Try.ntmps29]
        simp only [frs, Nat.reduceAdd, Nat.reduceSub]
        repeat (first | (with_reducible first | refine zw10 ?_ | refine zw1 ?_ | refine zw4 ?_ | refine zw18 ?_ | refine zw19 ?_ | refine zw11 ?_ | refine zw12 ?_ | refine zw14 ?_ | refine zw2 ?_ | refine zw5 ?_ | refine zw9 ?_ | refine zw13 ?_ | refine zw3 ?_ | refine zw6 ?_ | refine zw8 ?_ | refine zw15 ?_ | refine zw16 ?_ | refine zw17 ?_ | refine blk_o rfl ?_) | ((with_reducible first | refine zb1 mixed (fun K hK => ?_) | refine zb2 (fun K hK => ?_) | refine zb3 (fun K hK => ?_)); simp (disch := first | omega | (simp only [dls]; omega)) only [std, cev, cstep, St.ev, putT, AV.cells?, AV.int?, AV.bool?, AV.str?, readN, mkAV, putN, guardWant, bound, Value.oneCell', opO, putSt, reduceIte, reduceCtorEq, Int.reduceToNat, Nat.reduceAdd, Nat.reduceSub, Nat.reduceMul, Int.reduceAdd, Int.reduceSub, Int.reduceMul, Int.reduceNeg, fU, fT, hpi]; subst hK) | refine zcA (hr) rfl rfl rfl ?_)
        exact ⟨_, rfl, rfl⟩
  · have h0' : rightQ a = false := by simpa using h0
    rw [h0'] at hr
    refine pureC_of (rs := [(RV.tmp 4), (RV.tmp 5)]) Try.func29 (fun a w => Try.call29 a w) body29 cc29 (by kernel_rfl) ?_
    rw [Try.ntmps29]
    simp only [frs, Nat.reduceAdd, Nat.reduceSub]
    repeat (first | (with_reducible first | refine zw10 ?_ | refine zw1 ?_ | refine zw4 ?_ | refine zw18 ?_ | refine zw19 ?_ | refine zw11 ?_ | refine zw12 ?_ | refine zw14 ?_ | refine zw2 ?_ | refine zw5 ?_ | refine zw9 ?_ | refine zw13 ?_ | refine zw3 ?_ | refine zw6 ?_ | refine zw8 ?_ | refine zw15 ?_ | refine zw16 ?_ | refine zw17 ?_ | refine blk_o rfl ?_) | ((with_reducible first | refine zb1 mixed (fun K hK => ?_) | refine zb2 (fun K hK => ?_) | refine zb3 (fun K hK => ?_)); simp (disch := first | omega | (simp only [dls]; omega)) only [std, cev, cstep, St.ev, putT, AV.cells?, AV.int?, AV.bool?, AV.str?, readN, mkAV, putN, guardWant, bound, Value.oneCell', opO, putSt, reduceIte, reduceCtorEq, Int.reduceToNat, Nat.reduceAdd, Nat.reduceSub, Nat.reduceMul, Int.reduceAdd, Int.reduceSub, Int.reduceMul, Int.reduceNeg, fU]; subst hK) | refine zcA (hr) rfl rfl rfl ?_)
    exact ⟨_, rfl, rfl⟩

theorem vdense_yes (a : TV) (long : Int) (n L : Nat) (ha : FitsT a n L) (hn : n ≤ 1000000) (hL2 : L ≤ 1000000) (hk : denseOk a long = true) :
    PureC Try.prog 29 [aT a, aI long] (.ret (.tup [aV (rowO (denseTo a long.toNat (osl a).length)), aB true])) := by
  have ha1 := ha.1
  have hr := vright_C a n L ha hn hL2
  unfold denseOk at hk
  simp only [Bool.and_eq_true, Bool.or_eq_true, decide_eq_true_eq] at hk
  obtain ⟨h0, h1, h2, h3⟩ := hk
  rw [h0] at hr
  obtain ⟨m, rfl⟩ : ∃ m : Nat, long = (m : Int) := ⟨long.toNat, by omega⟩
  rw [Int.toNat_natCast]
  have hin := ints_C (List.replicate m 0) (by rw [List.length_replicate]; omega) (fun n hn => by rw [List.eq_of_mem_replicate hn]; omega)
  have hrp : ((List.replicate m (0 : Int)).map fun n : Int => rawQ (n : Rat)) = List.replicate m (rawQ 0) := by rw [List.map_replicate]; rfl
  rw [hrp] at hin
  have hgt : ∀ i, i < (osl a).length → (tAt a i).at' < m := fun i hi => by
    rcases h3 with h3 | h3
    · omega
    · by_cases he : i = (osl a).length - 1
      · rw [he]; exact h3
      · have := right_lt h0 (i := i) (j := (osl a).length - 1) (by omega) (by omega); omega
  have hnn0 : (!(List.replicate m (0 : Int)).isEmpty) = !(List.replicate m (rawQ 0)).isEmpty := by cases m <;> rfl
  rw [hnn0] at hin
  by_cases hz : (osl a).length = 0
  · refine pureC_of (rs := [(RV.tmp 4), (RV.tmp 5)]) Try.func29 (fun a w => Try.call29 a w) body29 cc29 (by kernel_rfl) ?_
    rw [Try.ntmps29]
    simp only [frs, Nat.reduceAdd, Nat.reduceSub]
    repeat (first | (with_reducible first | refine zw10 ?_ | refine zw1 ?_ | refine zw4 ?_ | refine zw18 ?_ | refine zw19 ?_ | refine zw11 ?_ | refine zw12 ?_ | refine zw14 ?_ | refine zw2 ?_ | refine zw5 ?_ | refine zw9 ?_ | refine zw13 ?_ | refine zw3 ?_ | refine zw6 ?_ | refine zw8 ?_ | refine zw15 ?_ | refine zw16 ?_ | refine zw17 ?_ | refine blk_o rfl ?_) | ((with_reducible first | refine zb1 mixed (fun K hK => ?_) | refine zb2 (fun K hK => ?_) | refine zb3 (fun K hK => ?_)); simp (disch := first | omega | (simp only [dls]; omega)) only [std, cev, cstep, St.ev, putT, AV.cells?, AV.int?, AV.bool?, AV.str?, readN, mkAV, putN, guardWant, bound, Value.oneCell', opO, putSt, reduceIte, reduceCtorEq, Int.reduceToNat, Nat.reduceAdd, Nat.reduceSub, Nat.reduceMul, Int.reduceAdd, Int.reduceSub, Int.reduceMul, Int.reduceNeg, fU, repI]; subst hK) | refine zcA (hr) rfl rfl rfl ?_ | (apply call_new (hin) rfl; (case hcl => (simp only [evs, St.ev, constAV, evl]; (repeat (first | exact closeAVs_nil | (apply closeAVs_cons; (first | (apply close_own3; rfl) | rfl)))); done)); (case hu => (simp only [evs, St.ev, constAV, evl]; (repeat (first | exact used_nil | (apply used_cons; (first | (apply used_own3; rfl) | rfl)))); done)); (case hh => ((simp only [fzl, Nat.reduceBEq, Nat.reduceAdd, Bool.false_eq_true, if_true, if_false, reduceIte]) <;> rfl))))
    refine awp_loop (fun (zz : Nat × (List RR) × Bool) => ⟨(aT a :: .junk :: .junk :: .junk :: .junk :: .junk :: .one (.own 1 0) :: .junk :: .junk :: .junk :: .junk :: .junk :: .junk :: .junk :: .junk :: .junk :: .junk :: .junk :: .junk :: .junk :: .junk :: .junk :: .junk :: .junk :: .junk :: .junk :: .junk :: .junk :: .junk :: .junk :: .junk :: .junk :: .junk :: .junk :: .junk :: .junk :: .junk :: .junk :: .junk :: aT a :: aI (osl a).length :: aI zz.1 :: .junk :: .junk :: .junk :: .junk :: .junk :: .junk :: .junk :: .junk :: .junk :: .junk :: .junk :: .junk :: .junk :: .junk :: .junk :: .junk :: []), [⟨0, 3, 1, encB fI (List.replicate m 0), false, true⟩, ⟨0, 40, 3, encB fR zz.2.1, true, zz.2.2⟩]⟩) (fun (zz : Nat × (List RR) × Bool) => zz.1 ≤ (osl a).length ∧ zz.2.1 = denseTo a m zz.1 ∧ zz.2.2 = !zz.2.1.isEmpty) (fun (zz : Nat × (List RR) × Bool) => (osl a).length - zz.1) (0, List.replicate m (rawQ 0), !(List.replicate m (rawQ 0)).isEmpty) ?hI1 (Fgt.head (Nat.zero_le 2) [true, false, false, false, false, false, true, false, false, false, false, false, false, false, false, false, false, false, false, false, false, false, false, false, false, false, false, false, false, false, false, false, false, false, false, false, false, false, false, true, true, true] ?hT1 ?hH1) ?hB1
    case hT1 => first | (simp (disch := omega) only [hds, liveT, cleanAV, cleanCell, clean1, cleanBlk, reduceIte, Int.reduceSub, Int.reduceAdd, Int.reduceNeg]; done) | rfl
    case hH1 => first | (simp (disch := omega) only [hds, liveT, cleanAV, cleanCell, clean1, cleanBlk, reduceIte, Int.reduceSub, Int.reduceAdd, Int.reduceNeg]; done) | rfl
    · dsimp only; exact ⟨by omega, rfl, rfl⟩
    rintro ⟨i, out, nn⟩ ⟨hi, ho, hnn⟩
    dsimp only at hi ho hnn
    have hol : out.length = m := by rw [ho]; exact denseTo_len a m i
    by_cases him : i = (osl a).length
    · repeat (first | (with_reducible first | refine zw10 ?_ | refine zw1 ?_ | refine zw4 ?_ | refine zw18 ?_ | refine zw19 ?_ | refine zw11 ?_ | refine zw12 ?_ | refine zw14 ?_ | refine zw2 ?_ | refine zw5 ?_ | refine zw9 ?_ | refine zw13 ?_ | refine zw3 ?_ | refine zw6 ?_ | refine zw8 ?_ | refine zw15 ?_ | refine zw16 ?_ | refine zw17 ?_ | refine blk_o rfl ?_) | ((with_reducible first | refine zb1 mixed (fun K hK => ?_) | refine zb2 (fun K hK => ?_) | refine zb3 (fun K hK => ?_)); simp (disch := first | omega | (simp only [dls]; omega)) only [std, cev, cstep, St.ev, putT, AV.cells?, AV.int?, AV.bool?, AV.str?, readN, mkAV, putN, guardWant, bound, Value.oneCell', opO, putSt, reduceIte, reduceCtorEq, Int.reduceToNat, Nat.reduceAdd, Nat.reduceSub, Nat.reduceMul, Int.reduceAdd, Int.reduceSub, Int.reduceMul, Int.reduceNeg, fU]; subst hK))
      refine ⟨_, rfl, ?_⟩
      rw [← him, ← ho]
      exact close_res2 rfl hnn
    · omega
  · have hpl : (osl a).length - 1 < (osl a).length := by omega
    have hpi : (((osl a).length : Int) - 1).toNat = (osl a).length - 1 := by omega
    have hlast := hgt _ hpl
    rw [tAt_in hpl] at hlast
    refine pureC_of (rs := [(RV.tmp 4), (RV.tmp 5)]) Try.func29 (fun a w => Try.call29 a w) body29 cc29 (by kernel_rfl) ?_
    rw [Try.ntmps29]
    simp only [frs, Nat.reduceAdd, Nat.reduceSub]
    repeat (first | (with_reducible first | refine zw10 ?_ | refine zw1 ?_ | refine zw4 ?_ | refine zw18 ?_ | refine zw19 ?_ | refine zw11 ?_ | refine zw12 ?_ | refine zw14 ?_ | refine zw2 ?_ | refine zw5 ?_ | refine zw9 ?_ | refine zw13 ?_ | refine zw3 ?_ | refine zw6 ?_ | refine zw8 ?_ | refine zw15 ?_ | refine zw16 ?_ | refine zw17 ?_ | refine blk_o rfl ?_) | ((with_reducible first | refine zb1 mixed (fun K hK => ?_) | refine zb2 (fun K hK => ?_) | refine zb3 (fun K hK => ?_)); simp (disch := first | omega | (simp only [dls]; omega)) only [std, cev, cstep, St.ev, putT, AV.cells?, AV.int?, AV.bool?, AV.str?, readN, mkAV, putN, guardWant, bound, Value.oneCell', opO, putSt, reduceIte, reduceCtorEq, Int.reduceToNat, Nat.reduceAdd, Nat.reduceSub, Nat.reduceMul, Int.reduceAdd, Int.reduceSub, Int.reduceMul, Int.reduceNeg, fU, repI, fT, hpi]; subst hK) | refine zcA (hr) rfl rfl rfl ?_ | (apply call_new (hin) rfl; (case hcl => (simp only [evs, St.ev, constAV, evl]; (repeat (first | exact closeAVs_nil | (apply closeAVs_cons; (first | (apply close_own3; rfl) | rfl)))); done)); (case hu => (simp only [evs, St.ev, constAV, evl]; (repeat (first | exact used_nil | (apply used_cons; (first | (apply used_own3; rfl) | rfl)))); done)); (case hh => ((simp only [fzl, Nat.reduceBEq, Nat.reduceAdd, Bool.false_eq_true, if_true, if_false, reduceIte]) <;> rfl))))
    refine awp_loop (fun (zz : Nat × (List RR) × Bool) => ⟨(aT a :: .junk :: .junk :: .junk :: .junk :: .junk :: .one (.own 1 0) :: .junk :: .junk :: .junk :: .junk :: .junk :: .junk :: .junk :: .junk :: .junk :: .junk :: .junk :: .junk :: .junk :: .junk :: .junk :: .junk :: .junk :: .junk :: .junk :: .junk :: .junk :: .junk :: .junk :: .junk :: .junk :: .junk :: .junk :: .junk :: .junk :: .junk :: .junk :: .junk :: aT a :: aI (osl a).length :: aI zz.1 :: .junk :: .junk :: .junk :: .junk :: .junk :: .junk :: .junk :: .junk :: .junk :: .junk :: .junk :: .junk :: .junk :: .junk :: .junk :: .junk :: []), [⟨0, 3, 1, encB fI (List.replicate m 0), false, true⟩, ⟨0, 40, 3, encB fR zz.2.1, true, zz.2.2⟩]⟩) (fun (zz : Nat × (List RR) × Bool) => zz.1 ≤ (osl a).length ∧ zz.2.1 = denseTo a m zz.1 ∧ zz.2.2 = !zz.2.1.isEmpty) (fun (zz : Nat × (List RR) × Bool) => (osl a).length - zz.1) (0, List.replicate m (rawQ 0), !(List.replicate m (rawQ 0)).isEmpty) ?hI2 (Fgt.head (Nat.zero_le 2) [true, false, false, false, false, false, true, false, false, false, false, false, false, false, false, false, false, false, false, false, false, false, false, false, false, false, false, false, false, false, false, false, false, false, false, false, false, false, false, true, true, true] ?hT2 ?hH2) ?hB2
    case hT2 => first | (simp (disch := omega) only [hds, liveT, cleanAV, cleanCell, clean1, cleanBlk, reduceIte, Int.reduceSub, Int.reduceAdd, Int.reduceNeg]; done) | rfl
    case hH2 => first | (simp (disch := omega) only [hds, liveT, cleanAV, cleanCell, clean1, cleanBlk, reduceIte, Int.reduceSub, Int.reduceAdd, Int.reduceNeg]; done) | rfl
    · dsimp only; exact ⟨by omega, rfl, rfl⟩
    rintro ⟨i, out, nn⟩ ⟨hi, ho, hnn⟩
    dsimp only at hi ho hnn
    have hol : out.length = m := by rw [ho]; exact denseTo_len a m i
    by_cases him : i = (osl a).length
    · repeat (first | (with_reducible first | refine zw10 ?_ | refine zw1 ?_ | refine zw4 ?_ | refine zw18 ?_ | refine zw19 ?_ | refine zw11 ?_ | refine zw12 ?_ | refine zw14 ?_ | refine zw2 ?_ | refine zw5 ?_ | refine zw9 ?_ | refine zw13 ?_ | refine zw3 ?_ | refine zw6 ?_ | refine zw8 ?_ | refine zw15 ?_ | refine zw16 ?_ | refine zw17 ?_ | refine blk_o rfl ?_) | ((with_reducible first | refine zb1 mixed (fun K hK => ?_) | refine zb2 (fun K hK => ?_) | refine zb3 (fun K hK => ?_)); simp (disch := first | omega | (simp only [dls]; omega)) only [std, cev, cstep, St.ev, putT, AV.cells?, AV.int?, AV.bool?, AV.str?, readN, mkAV, putN, guardWant, bound, Value.oneCell', opO, putSt, reduceIte, reduceCtorEq, Int.reduceToNat, Nat.reduceAdd, Nat.reduceSub, Nat.reduceMul, Int.reduceAdd, Int.reduceSub, Int.reduceMul, Int.reduceNeg, fU]; subst hK))
      refine ⟨_, rfl, ?_⟩
      rw [← him, ← ho]
      exact close_res2 rfl hnn
    · have hlt : i < (osl a).length := by omega
      have fi := ha.2 _ (List.getElem_mem hlt)
      have hmk := rmake_C (RRnum (osl a)[i].v) (osl a)[i].v.den (Nat.le_trans fi.1 (by omega)) (Nat.le_trans fi.2 (by omega))
      rw [num_top, denR_bot] at hmk
      change PureC _ _ _ (.ret (aR (rawQ (osl a)[i].v.val))) at hmk
      have hat := hgt i hlt
      have hnn2 := right_nn h0 hlt
      have hset := denseTo_succ a m i
      rw [tAt_in hlt] at hat hnn2 hset
      repeat (first | (with_reducible first | refine zw10 ?_ | refine zw1 ?_ | refine zw4 ?_ | refine zw18 ?_ | refine zw19 ?_ | refine zw11 ?_ | refine zw12 ?_ | refine zw14 ?_ | refine zw2 ?_ | refine zw5 ?_ | refine zw9 ?_ | refine zw13 ?_ | refine zw3 ?_ | refine zw6 ?_ | refine zw8 ?_ | refine zw15 ?_ | refine zw16 ?_ | refine zw17 ?_ | refine blk_o rfl ?_) | ((with_reducible first | refine zb1 mixed (fun K hK => ?_) | refine zb2 (fun K hK => ?_) | refine zb3 (fun K hK => ?_)); simp (disch := first | omega | (simp only [dls]; omega)) only [std, cev, cstep, St.ev, putT, AV.cells?, AV.int?, AV.bool?, AV.str?, readN, mkAV, putN, guardWant, bound, Value.oneCell', opO, putSt, reduceIte, reduceCtorEq, Int.reduceToNat, Nat.reduceAdd, Nat.reduceSub, Nat.reduceMul, Int.reduceAdd, Int.reduceSub, Int.reduceMul, Int.reduceNeg, fU, fT, fR, setR]; subst hK) | refine zcA (hmk) rfl rfl rfl ?_)
      refine ⟨(i + 1, out.set (osl a)[i].at'.toNat (rawQ (osl a)[i].v.val), nn), ?hI3, ?hM3, Fgt.head (Nat.zero_le 2) [true, false, false, false, false, false, true, false, false, false, false, false, false, false, false, false, false, false, false, false, false, false, false, false, false, false, false, false, false, false, false, false, false, false, false, false, false, false, false, true, true, true] ?hT3 ?hH3⟩
      case hT3 => first | (simp (disch := omega) only [hds, liveT, cleanAV, cleanCell, clean1, cleanBlk, reduceIte, Int.reduceSub, Int.reduceAdd, Int.reduceNeg]; done) | rfl
      case hH3 => first | (simp (disch := omega) only [hds, liveT, cleanAV, cleanCell, clean1, cleanBlk, reduceIte, Int.reduceSub, Int.reduceAdd, Int.reduceNeg]; done) | rfl
      · dsimp only
        refine ⟨by omega, ?_, ?_⟩
        · rw [ho, hset]
        · rw [hnn]
          have : (out.set (osl a)[i].at'.toNat (rawQ (osl a)[i].v.val)).length = out.length := List.length_set
          cases out with
          | nil => simp
          | cons x l => cases hs : (x :: l).set (osl a)[i].at'.toNat (rawQ (osl a)[i].v.val) with
            | nil => rw [hs] at this; simp at this
            | cons y l2 => rfl
      · dsimp only; omega

end Go.Proofs.Ytdhkdnmefeeclaa
set_option linter.unusedSimpArgs false
set_option linter.unusedVariables false
set_option maxRecDepth 100000
set_option maxHeartbeats 4000000
namespace Go.Proofs.Ytdhkdnmefeeclaa
open Go Go.Am Go.Proofs Go.RowKit Go.Off

def qAtI (a : VV) (k : Int) : Rat := if 0 ≤ k then qAt a k.toNat else 0

theorem vatI_C (a : VV) (k : Int) (hl : (osl a).length ≤ 1000000000000) : ∃ r : RR, r.val = qAtI a k ∧ (∀ L, 1 ≤ L → (∀ r ∈ osl a, Fits r L) → Fits r L) ∧ PureC Try.prog 101 [aV a, aI k] (.ret (aR r)) := by
  have hint := rint_C 0 (by omega) (by omega)
  rw [show ((0 : Int) : Rat) = 0 from rfl] at hint
  by_cases h0 : 0 ≤ k
  · obtain ⟨m, rfl⟩ : ∃ m : Nat, k = (m : Int) := ⟨k.toNat, by omega⟩
    by_cases hm : m ≤ 1000000000000
    · obtain ⟨r, h1, h2, h3⟩ := vat_C a m hl hm
      exact ⟨r, by rw [h1]; unfold qAtI; rw [if_pos h0, Int.toNat_natCast], h2, h3⟩
    · refine ⟨rawQ 0, by rw [rawQ_val]; unfold qAtI; rw [if_pos h0, Int.toNat_natCast]; unfold qAt; rw [rAt_out (by omega)]; exact zR_val.symm, fun L hL _ => fits_rawQ (fitsQ_zero L hL), ?_⟩
      refine pureC_of (rs := [(RV.cell 4 3 true)]) Try.func101 (fun a w => Try.call101 a w) body101 cc101 (by kernel_rfl) ?_
      rw [Try.ntmps101]
      simp only [frs, Nat.reduceAdd, Nat.reduceSub]
      repeat (first | (with_reducible first | refine zw10 ?_ | refine zw1 ?_ | refine zw4 ?_ | refine zw18 ?_ | refine zw19 ?_ | refine zw11 ?_ | refine zw12 ?_ | refine zw14 ?_ | refine zw2 ?_ | refine zw5 ?_ | refine zw9 ?_ | refine zw13 ?_ | refine zw3 ?_ | refine zw6 ?_ | refine zw8 ?_ | refine zw15 ?_ | refine zw16 ?_ | refine zw17 ?_ | refine blk_o rfl ?_) | ((with_reducible first | refine zb1 mixed (fun K hK => ?_) | refine zb2 (fun K hK => ?_) | refine zb3 (fun K hK => ?_)); simp (disch := first | omega | (simp only [dls]; omega)) only [std, cev, cstep, St.ev, putT, AV.cells?, AV.int?, AV.bool?, AV.str?, readN, mkAV, putN, guardWant, bound, Value.oneCell', opO, putSt, reduceIte, reduceCtorEq, Int.reduceToNat, Nat.reduceAdd, Nat.reduceSub, Nat.reduceMul, Int.reduceAdd, Int.reduceSub, Int.reduceMul, Int.reduceNeg, fU]; subst hK) | refine zcA (hint) rfl rfl rfl ?_)
      exact ⟨_, rfl, rfl⟩
  · refine ⟨rawQ 0, by rw [rawQ_val]; unfold qAtI; rw [if_neg h0], fun L hL _ => fits_rawQ (fitsQ_zero L hL), ?_⟩
    refine pureC_of (rs := [(RV.cell 4 3 true)]) Try.func101 (fun a w => Try.call101 a w) body101 cc101 (by kernel_rfl) ?_
    rw [Try.ntmps101]
    simp only [frs, Nat.reduceAdd, Nat.reduceSub]
    repeat (first | (with_reducible first | refine zw10 ?_ | refine zw1 ?_ | refine zw4 ?_ | refine zw18 ?_ | refine zw19 ?_ | refine zw11 ?_ | refine zw12 ?_ | refine zw14 ?_ | refine zw2 ?_ | refine zw5 ?_ | refine zw9 ?_ | refine zw13 ?_ | refine zw3 ?_ | refine zw6 ?_ | refine zw8 ?_ | refine zw15 ?_ | refine zw16 ?_ | refine zw17 ?_ | refine blk_o rfl ?_) | ((with_reducible first | refine zb1 mixed (fun K hK => ?_) | refine zb2 (fun K hK => ?_) | refine zb3 (fun K hK => ?_)); simp (disch := first | omega | (simp only [dls]; omega)) only [std, cev, cstep, St.ev, putT, AV.cells?, AV.int?, AV.bool?, AV.str?, readN, mkAV, putN, guardWant, bound, Value.oneCell', opO, putSt, reduceIte, reduceCtorEq, Int.reduceToNat, Nat.reduceAdd, Nat.reduceSub, Nat.reduceMul, Int.reduceAdd, Int.reduceSub, Int.reduceMul, Int.reduceNeg, fU]; subst hK) | refine zcA (hint) rfl rfl rfl ?_)
    exact ⟨_, rfl, rfl⟩

def sdotTo (l : TV) (a : VV) (k : Nat) : Rat := (List.range k).foldl (fun s i => s + (tAt l i).v.val * qAtI a (tAt l i).at') 0
def sdotQ (l : TV) (a : VV) : Rat := sdotTo l a (osl l).length
theorem sdotTo_succ (l : TV) (a : VV) (k : Nat) : sdotTo l a (k + 1) = sdotTo l a k + (tAt l k).v.val * qAtI a (tAt l k).at' := by
  unfold sdotTo; rw [List.range_succ, List.foldl_append]; rfl
theorem fitsQ_sdot {l : TV} {a : VV} {n m L : Nat} (hl : FitsT l n L) (ha : FitsV a m L) (hL : 1 ≤ L) (k : Nat) (hk : k ≤ (osl l).length) : FitsQ (sdotTo l a k) (k * (2 * L + 1) + 1) := by
  induction k with
  | zero => rw [Nat.zero_mul]; exact fitsQ_zero _ (by omega)
  | succ k ih =>
    rw [sdotTo_succ]
    have hlt : k < (osl l).length := by omega
    have f1 : Fits (tAt l k).v L := by rw [tAt_in hlt]; exact hl.2 _ (List.getElem_mem hlt)
    have f2 : FitsQ (qAtI a (tAt l k).at') L := by
      unfold qAtI
      split
      · exact (ha.at _).val hL
      · exact fitsQ_zero L hL
    have := (ih (by omega)).add1 ((f1.val hL).mul f2)
    exact this.mono (by rw [Nat.add_mul]; omega)

abbrev c39_k1 : CC := (CC.seq (CC.reg [⟨(some 25), none, (COp.load 3 true (Operand.tmp 5))⟩, ⟨none, none, (COp.store 3 (Operand.tmp 4) (Operand.tmp 25))⟩]) CC.ret)
abbrev c39_b1 : CC := (CC.seq (CC.reg [⟨(some 12), none, (COp.bin BinOp.lss (Operand.tmp 11) (Operand.tmp 10))⟩]) (CC.seq (CC.cond (Operand.tmp 12) CC.skip (CC.exit 0)) (CC.seq (CC.block 1 (CC.seq (CC.reg [⟨(some 13), none, (COp.iaddr 4 none (Operand.tmp 9) (Operand.tmp 11))⟩, ⟨(some 14), none, (COp.load 4 true (Operand.tmp 13))⟩, ⟨(some 7), none, (COp.new 42 [(Value.int IntKind.i64 (0)), (Value.bool false), (Value.slice none 0 0), (Value.slice none 0 0)])⟩, ⟨none, none, (COp.store 4 (Operand.tmp 7) (Operand.tmp 14))⟩]) (CC.reg [⟨(some 15), none, (COp.load 3 true (Operand.tmp 5))⟩, ⟨(some 16), none, (COp.faddr 1 (Operand.tmp 7))⟩, ⟨(some 17), none, (COp.load 3 true (Operand.tmp 16))⟩, ⟨(some 18), none, (COp.mv (Operand.tmp 1))⟩, ⟨(some 19), none, (COp.faddr 0 (Operand.tmp 7))⟩, ⟨(some 20), none, (COp.load 1 false (Operand.tmp 19))⟩, ⟨(some 21), none, (COp.callf (Operand.func 101) [(Operand.tmp 18), (Operand.tmp 20)])⟩, ⟨(some 22), none, (COp.callf (Operand.func 48) [(Operand.tmp 17), (Operand.tmp 21)])⟩, ⟨(some 23), none, (COp.callf (Operand.func 47) [(Operand.tmp 15), (Operand.tmp 22)])⟩, ⟨none, none, (COp.store 3 (Operand.tmp 5) (Operand.tmp 23))⟩]))) (CC.reg [⟨(some 24), none, (COp.bin BinOp.add (Operand.tmp 11) (Operand.const (Value.int IntKind.i64 (1))))⟩, ⟨(some 11), none, (COp.mv (Operand.tmp 24))⟩]))))
abbrev c39 : CC := (CC.seq (CC.reg [⟨(some 4), none, (COp.new 40 [(Value.bool false), (Value.slice none 0 0), (Value.slice none 0 0)])⟩]) (CC.seq (CC.reg [⟨(some 8), none, (COp.callf (Operand.func 59) [(Operand.const (Value.int IntKind.i64 (0)))])⟩, ⟨(some 5), none, (COp.new 40 [(Value.bool false), (Value.slice none 0 0), (Value.slice none 0 0)])⟩, ⟨none, none, (COp.store 3 (Operand.tmp 5) (Operand.tmp 8))⟩]) (CC.seq (CC.seq (CC.reg [⟨(some 9), none, (COp.mv (Operand.tmp 0))⟩, ⟨(some 10), none, (COp.len false (Operand.tmp 9))⟩, ⟨(some 11), none, (COp.mv (Operand.const (Value.int IntKind.i64 (0))))⟩]) (CC.block 0 (CC.loop c39_b1))) c39_k1)))
theorem cc39 : ccode Try.prog [] (Try.f39.body.getD .skip) = some c39 := by kernel_rfl
theorem body39 : Try.f39.body = some (Try.f39.body.getD .skip) := rfl

theorem vsdot_C (l : TV) (a : VV) (n L : Nat) (hl : FitsT l n L) (ha : FitsV a n L) (hn : n ≤ 1000) (hL : 1 ≤ L) (hL2 : L ≤ 1000) :
    PureC Try.prog 39 [aT l, aV a] (.ret (aR (rawQ (sdotQ l a)))) := by
  have hl1 := hl.1
  have ha1 := ha.1
  have hint := rint_C 0 (by omega) (by omega)
  rw [show ((0 : Int) : Rat) = 0 from rfl] at hint
  unfold sdotQ
  refine pureC_of (rs := [(RV.cell 4 3 true)]) Try.func39 (fun a w => Try.call39 a w) body39 cc39 (by kernel_rfl) ?_
  rw [Try.ntmps39]
  simp only [frs, Nat.reduceAdd, Nat.reduceSub]
  repeat (first | (with_reducible first | refine zw10 ?_ | refine zw1 ?_ | refine zw4 ?_ | refine zw18 ?_ | refine zw19 ?_ | refine zw11 ?_ | refine zw12 ?_ | refine zw14 ?_ | refine zw2 ?_ | refine zw5 ?_ | refine zw9 ?_ | refine zw13 ?_ | refine zw3 ?_ | refine zw6 ?_ | refine zw8 ?_ | refine zw15 ?_ | refine zw16 ?_ | refine zw17 ?_ | refine blk_o rfl ?_) | ((with_reducible first | refine zb1 mixed (fun K hK => ?_) | refine zb2 (fun K hK => ?_) | refine zb3 (fun K hK => ?_)); simp (disch := first | omega | (simp only [dls]; omega)) only [std, cev, cstep, St.ev, putT, AV.cells?, AV.int?, AV.bool?, AV.str?, readN, mkAV, putN, guardWant, bound, Value.oneCell', opO, putSt, reduceIte, reduceCtorEq, Int.reduceToNat, Nat.reduceAdd, Nat.reduceSub, Nat.reduceMul, Int.reduceAdd, Int.reduceSub, Int.reduceMul, Int.reduceNeg, fU]; subst hK) | refine zcA (hint) rfl rfl rfl ?_)
  refine awp_loop (fun (zz : Nat) => ⟨(aT l :: aV a :: .junk :: .junk :: .one (.ptr 0 0 0 0) :: .one (.ptr 1 0 0 0) :: .junk :: .junk :: .junk :: aT l :: aI (osl l).length :: aI zz :: .junk :: .junk :: .junk :: .junk :: .junk :: .junk :: .junk :: .junk :: .junk :: .junk :: .junk :: .junk :: .junk :: .junk :: []), [⟨0, 40, 3, [[.c (.val (.bool false)), .c (.val (.slice none 0 0)), .c (.val (.slice none 0 0))]], true, true⟩, ⟨0, 40, 3, [[.c (.val (.bool (rawQ (sdotTo l a zz)).minus)), .c (nr (rawQ (sdotTo l a zz)).size), .c (nr (rawQ (sdotTo l a zz)).den)]], true, true⟩]⟩) (fun (zz : Nat) => zz ≤ (osl l).length) (fun (zz : Nat) => (osl l).length - zz) (0) ?hI1 (Fgt.head (Nat.zero_le 2) [true, true, false, false, true, true, false, false, false, true, true, true] ?hT1 ?hH1) ?hB1
  case hT1 => first | (simp (disch := omega) only [hds, liveT, cleanAV, cleanCell, clean1, cleanBlk, reduceIte, Int.reduceSub, Int.reduceAdd, Int.reduceNeg]; done) | rfl
  case hH1 => first | (simp (disch := omega) only [hds, liveT, cleanAV, cleanCell, clean1, cleanBlk, reduceIte, Int.reduceSub, Int.reduceAdd, Int.reduceNeg]; done) | rfl
  · exact Nat.zero_le _
  intro i hi
  by_cases him : i = (osl l).length
  · rw [← him]
    repeat (first | (with_reducible first | refine zw10 ?_ | refine zw1 ?_ | refine zw4 ?_ | refine zw18 ?_ | refine zw19 ?_ | refine zw11 ?_ | refine zw12 ?_ | refine zw14 ?_ | refine zw2 ?_ | refine zw5 ?_ | refine zw9 ?_ | refine zw13 ?_ | refine zw3 ?_ | refine zw6 ?_ | refine zw8 ?_ | refine zw15 ?_ | refine zw16 ?_ | refine zw17 ?_ | refine blk_o rfl ?_) | ((with_reducible first | refine zb1 mixed (fun K hK => ?_) | refine zb2 (fun K hK => ?_) | refine zb3 (fun K hK => ?_)); simp (disch := first | omega | (simp only [dls]; omega)) only [std, cev, cstep, St.ev, putT, AV.cells?, AV.int?, AV.bool?, AV.str?, readN, mkAV, putN, guardWant, bound, Value.oneCell', opO, putSt, reduceIte, reduceCtorEq, Int.reduceToNat, Nat.reduceAdd, Nat.reduceSub, Nat.reduceMul, Int.reduceAdd, Int.reduceSub, Int.reduceMul, Int.reduceNeg, fU]; subst hK))
    exact ⟨_, rfl, rfl⟩
  · have hlt : i < (osl l).length := by omega
    have fs := fitsQ_sdot hl ha hL i (by omega)
    have hiL : i * (2 * L + 1) ≤ 1000 * 2001 := Nat.mul_le_mul (by omega) (by omega)
    have ft := hl.2 _ (List.getElem_mem hlt)
    obtain ⟨ra, hra, hfa, hca⟩ := vatI_C a (osl l)[i].at' (by omega)
    have fra := hfa L hL ha.2
    have hm := rmul_C (osl l)[i].v ra (ft.mono (by omega)) (fra.mono (by omega))
    have fm : FitsQ ((osl l)[i].v.val * ra.val) (2 * L) := ((ft.val hL).mul (fra.val hL)).mono (by omega)
    have had := radd_C (rawQ (sdotTo l a i)) (rawQ ((osl l)[i].v.val * ra.val)) (fits_rawQ (fs.mono (by omega))) (fits_rawQ (fm.mono (by omega)))
    have hnx := sdotTo_succ l a i
    rw [rawQ_val, rawQ_val, hra] at had
    rw [tAt_in hlt] at hnx
    rw [← hnx] at had
    rw [hra] at hm
    generalize rawQ ((osl l)[i].v.val * qAtI a (osl l)[i].at') = pr at hm had
    generalize rawQ (sdotTo l a i) = sr at *
    repeat (first | (with_reducible first | refine zw10 ?_ | refine zw1 ?_ | refine zw4 ?_ | refine zw18 ?_ | refine zw19 ?_ | refine zw11 ?_ | refine zw12 ?_ | refine zw14 ?_ | refine zw2 ?_ | refine zw5 ?_ | refine zw9 ?_ | refine zw13 ?_ | refine zw3 ?_ | refine zw6 ?_ | refine zw8 ?_ | refine zw15 ?_ | refine zw16 ?_ | refine zw17 ?_ | refine blk_o rfl ?_) | ((with_reducible first | refine zb1 mixed (fun K hK => ?_) | refine zb2 (fun K hK => ?_) | refine zb3 (fun K hK => ?_)); simp (disch := first | omega | (simp only [dls]; omega)) only [std, cev, cstep, St.ev, putT, AV.cells?, AV.int?, AV.bool?, AV.str?, readN, mkAV, putN, guardWant, bound, Value.oneCell', opO, putSt, reduceIte, reduceCtorEq, Int.reduceToNat, Nat.reduceAdd, Nat.reduceSub, Nat.reduceMul, Int.reduceAdd, Int.reduceSub, Int.reduceMul, Int.reduceNeg, fU, fT]; subst hK) | refine zcA (hca) rfl rfl rfl ?_ | refine zcA (hm) rfl rfl rfl ?_ | refine zcA (had) rfl rfl rfl ?_)
    refine ⟨(i + 1), ?hI2, ?hM2, Fgt.head (Nat.zero_le 2) [true, true, false, false, true, true, false, false, false, true, true, true] ?hT2 ?hH2⟩
    case hT2 => first | (simp (disch := omega) only [hds, liveT, cleanAV, cleanCell, clean1, cleanBlk, reduceIte, Int.reduceSub, Int.reduceAdd, Int.reduceNeg]; done) | rfl
    case hH2 => first | (simp (disch := omega) only [hds, liveT, cleanAV, cleanCell, clean1, cleanBlk, reduceIte, Int.reduceSub, Int.reduceAdd, Int.reduceNeg]; done) | rfl
    · exact Nat.succ_le_of_lt hlt
    · show (osl l).length - (i + 1) < (osl l).length - i; omega

end Go.Proofs.Ytdhkdnmefeeclaa
