/- The law VecSums: the walk. -/
import Derived.Test.YtdhkdnmefeeclaaL1
set_option linter.unusedSimpArgs false
set_option linter.unusedVariables false
set_option linter.unnecessarySimpa false
set_option linter.unusedSimpArgs false
set_option linter.unusedVariables false
set_option maxRecDepth 100000
set_option maxHeartbeats 4000000
namespace Go.Proofs.Ytdhkdnmefeeclaa
open Go Go.Am Go.Proofs Go.RowKit Go.Off

theorem foldl_congr_mem {α β : Type} {f g : β → α → β} : ∀ (l : List α) (s : β), (∀ a ∈ l, ∀ s, f s a = g s a) → l.foldl f s = l.foldl g s
  | [], s, _ => rfl
  | a :: l, s, h => by rw [List.foldl_cons, List.foldl_cons, h a (by simp) s]; exact foldl_congr_mem l _ (fun b hb => h b (by simp [hb]))
theorem ddot_row (a b : VV) : ddot (rowO (rowD a)) (rowO (rowD b)) = dotV a b := by
  unfold ddot ddotTo dotV dotTo vmin
  rw [osl_rowO, osl_rowO, rowD_len, rowD_len]
  exact foldl_congr_mem _ _ (fun i _ s => by rw [dAt_rowD, dAt_rowD]; rfl)
theorem dadd_row (a b : VV) : dadd (rowO (rowD a)) (rowO (rowD b)) = addQ a b := by
  unfold dadd daddTo addQ
  rw [osl_rowO, osl_rowO, rowD_len, rowD_len]
  exact List.map_congr_left (fun i _ => by rw [dAt_rowD, dAt_rowD])
theorem fits_dotV {a b : VV} {n L : Nat} (ha : FitsV a n L) (hb : FitsV b n L) (hL : 1 ≤ L) : FitsQ (dotV a b) (n * (2 * L + 1) + 1) := by
  rw [← ddot_row]
  have := fitsQ_ddot (fitsD_rowD ha hL) (fitsD_rowD hb hL) hL (min (osl (rowO (rowD a))).length (osl (rowO (rowD b))).length)
  refine this.mono (Nat.add_le_add_right (Nat.mul_le_mul_right _ ?_) _)
  rw [osl_rowO, rowD_len]
  have := ha.1; omega
theorem fits_addQ {a b : VV} {n L : Nat} (ha : FitsV a n L) (hb : FitsV b n L) (hL : 1 ≤ L) : ∀ q ∈ addQ a b, FitsQ q (L + L + 1) := fun q hq => by
  obtain ⟨i, _, rfl⟩ := List.mem_map.1 hq
  exact ((ha.at i).val hL).add1 ((hb.at i).val hL)
theorem addQ_len {a b : VV} {n L : Nat} (ha : FitsV a n L) (hb : FitsV b n L) : (addQ a b).length ≤ n := by
  unfold addQ; have := ha.1; have := hb.1; simp; omega
theorem fits_scaleQ {a : VV} {r : RR} {n L : Nat} (ha : FitsV a n L) (hr : Fits r L) (hL : 1 ≤ L) : ∀ q ∈ scaleQ a r.val, FitsQ q (L + L) := fun q hq => by
  obtain ⟨x, hx, rfl⟩ := List.mem_map.1 hq
  exact ((ha.2 x hx).val hL).mul (hr.val hL)
theorem scaleQ_len (a : VV) (q : Rat) : (scaleQ a q).length = (osl a).length := by simp [scaleQ]
theorem litR1 (r : RR) : [[Cell.c (.val (.bool r.minus)), Cell.c (nr r.size), Cell.c (nr r.den)]] = encB fR [r] := rfl
theorem scaled_take (a : VV) (q : Rat) (i : Nat) (h : i < (osl a).length) : ((rowD a).take (i + 1)).map (· * q) = ((rowD a).take i).map (· * q) ++ [(osl a)[i].val * q] := by
  rw [List.take_succ_eq_append_getElem (by rw [rowD_len]; exact h), List.map_append]
  simp [rowD]

abbrev c6_k1 : CC := (CC.seq (CC.reg [⟨(some 45), none, (COp.mv (Operand.tmp 0))⟩, ⟨(some 46), none, (COp.mv (Operand.tmp 1))⟩, ⟨(some 47), none, (COp.callf (Operand.func 41) [(Operand.tmp 45), (Operand.tmp 46)])⟩, ⟨(some 48), none, (COp.mv (Operand.tmp 7))⟩, ⟨(some 49), none, (COp.mv (Operand.tmp 8))⟩, ⟨(some 50), none, (COp.callf (Operand.func 40) [(Operand.tmp 48), (Operand.tmp 49)])⟩, ⟨(some 51), none, (COp.callf (Operand.func 32) [(Operand.tmp 47), (Operand.tmp 50)])⟩, ⟨(some 52), none, (COp.mv (Operand.tmp 51))⟩, ⟨(some 53), (some (52, true)), (COp.mv (Operand.tmp 0))⟩, ⟨(some 54), (some (52, true)), (COp.mv (Operand.tmp 1))⟩, ⟨(some 55), (some (52, true)), (COp.callf (Operand.func 43) [(Operand.tmp 53), (Operand.tmp 54)])⟩, ⟨(some 56), (some (52, true)), (COp.mv (Operand.tmp 7))⟩, ⟨(some 57), (some (52, true)), (COp.mv (Operand.tmp 8))⟩, ⟨(some 58), (some (52, true)), (COp.callf (Operand.func 44) [(Operand.tmp 56), (Operand.tmp 57)])⟩, ⟨(some 59), (some (52, true)), (COp.callf (Operand.func 42) [(Operand.tmp 55), (Operand.tmp 58)])⟩, ⟨(some 60), none, (COp.pick (Operand.tmp 52) (Operand.tmp 59) (Operand.const (Value.bool false)))⟩, ⟨(some 61), none, (COp.mv (Operand.tmp 60))⟩, ⟨(some 62), (some (61, true)), (COp.mv (Operand.tmp 0))⟩, ⟨(some 63), (some (61, true)), (COp.load 3 true (Operand.tmp 5))⟩, ⟨(some 64), (some (61, true)), (COp.callf (Operand.func 45) [(Operand.tmp 62), (Operand.tmp 63)])⟩, ⟨(some 65), (some (61, true)), (COp.mv (Operand.tmp 9))⟩, ⟨(some 66), (some (61, true)), (COp.callf (Operand.func 42) [(Operand.tmp 64), (Operand.tmp 65)])⟩, ⟨(some 67), none, (COp.pick (Operand.tmp 61) (Operand.tmp 66) (Operand.const (Value.bool false)))⟩, ⟨(some 68), none, (COp.mv (Operand.tmp 67))⟩, ⟨(some 69), (some (68, true)), (COp.callf (Operand.func 27) [])⟩, ⟨(some 70), none, (COp.pick (Operand.tmp 68) (Operand.tmp 69) (Operand.const (Value.bool false)))⟩, ⟨(some 6), none, (COp.mv (Operand.tmp 70))⟩]) CC.ret)
abbrev c6_b1 : CC := (CC.seq (CC.reg [⟨(some 34), none, (COp.bin BinOp.lss (Operand.tmp 33) (Operand.tmp 32))⟩]) (CC.seq (CC.cond (Operand.tmp 34) CC.skip (CC.exit 0)) (CC.seq (CC.block 1 (CC.seq (CC.reg [⟨(some 35), none, (COp.iaddr 2 none (Operand.tmp 31) (Operand.tmp 33))⟩, ⟨(some 36), none, (COp.load 2 true (Operand.tmp 35))⟩, ⟨(some 11), none, (COp.new 33 [(Value.string ⟨#[]⟩), (Value.string ⟨#[]⟩)])⟩, ⟨none, none, (COp.store 2 (Operand.tmp 11) (Operand.tmp 36))⟩]) (CC.reg [⟨(some 37), none, (COp.mv (Operand.tmp 9))⟩, ⟨(some 38), none, (COp.load 2 true (Operand.tmp 11))⟩, ⟨(some 39), none, (COp.load 3 true (Operand.tmp 5))⟩, ⟨(some 40), none, (COp.callf (Operand.func 35) [(Operand.tmp 39)])⟩, ⟨(some 41), none, (COp.callf (Operand.func 37) [(Operand.tmp 38), (Operand.tmp 40)])⟩, ⟨(some 42), none, (COp.mkrow 33 2 [(Operand.tmp 41)])⟩, ⟨(some 43), none, (COp.append 33 2 32 (Operand.tmp 37) (Operand.tmp 42))⟩, ⟨(some 9), none, (COp.mv (Operand.tmp 43))⟩]))) (CC.reg [⟨(some 44), none, (COp.bin BinOp.add (Operand.tmp 33) (Operand.const (Value.int IntKind.i64 (1))))⟩, ⟨(some 33), none, (COp.mv (Operand.tmp 44))⟩]))))
abbrev c6 : CC := (CC.seq (CC.reg [⟨(some 5), none, (COp.box 40 (Operand.tmp 2))⟩, ⟨(some 6), none, (COp.mv (Operand.const (Value.bool false)))⟩]) (CC.seq (CC.seq (CC.reg [⟨(some 12), none, (COp.mv (Operand.tmp 0))⟩, ⟨(some 13), none, (COp.callf (Operand.func 26) [(Operand.tmp 12)])⟩, ⟨(some 14), none, (COp.un UnOp.not (Operand.tmp 13))⟩, ⟨(some 15), none, (COp.mv (Operand.tmp 14))⟩, ⟨(some 16), (some (15, false)), (COp.mv (Operand.tmp 1))⟩, ⟨(some 17), (some (15, false)), (COp.callf (Operand.func 26) [(Operand.tmp 16)])⟩, ⟨(some 18), (some (15, false)), (COp.un UnOp.not (Operand.tmp 17))⟩, ⟨(some 19), none, (COp.pick (Operand.tmp 15) (Operand.const (Value.bool true)) (Operand.tmp 18))⟩, ⟨(some 20), none, (COp.mv (Operand.tmp 19))⟩, ⟨(some 21), (some (20, false)), (COp.load 3 true (Operand.tmp 5))⟩, ⟨(some 22), (some (20, false)), (COp.mkrow 40 3 [(Operand.tmp 21)])⟩, ⟨(some 23), (some (20, false)), (COp.callf (Operand.func 26) [(Operand.tmp 22)])⟩, ⟨(some 24), (some (20, false)), (COp.un UnOp.not (Operand.tmp 23))⟩, ⟨(some 25), none, (COp.pick (Operand.tmp 20) (Operand.const (Value.bool true)) (Operand.tmp 24))⟩]) (CC.cond (Operand.tmp 25) (CC.seq (CC.reg [⟨(some 26), none, (COp.callf (Operand.func 27) [])⟩, ⟨(some 6), none, (COp.mv (Operand.tmp 26))⟩]) CC.ret) CC.skip)) (CC.seq (CC.reg [⟨(some 27), none, (COp.mv (Operand.tmp 0))⟩, ⟨(some 28), none, (COp.callf (Operand.func 31) [(Operand.tmp 27)])⟩, ⟨(some 29), none, (COp.mv (Operand.tmp 1))⟩, ⟨(some 30), none, (COp.callf (Operand.func 31) [(Operand.tmp 29)])⟩, ⟨(some 7), none, (COp.mv (Operand.tmp 28))⟩, ⟨(some 8), none, (COp.mv (Operand.tmp 30))⟩]) (CC.seq (CC.reg [⟨(some 9), none, (COp.mv (Operand.const (Value.slice none 0 0)))⟩]) (CC.seq (CC.seq (CC.reg [⟨(some 31), none, (COp.mv (Operand.tmp 7))⟩, ⟨(some 32), none, (COp.len false (Operand.tmp 31))⟩, ⟨(some 33), none, (COp.mv (Operand.const (Value.int IntKind.i64 (0))))⟩]) (CC.block 0 (CC.loop c6_b1))) c6_k1)))))
theorem cc6 : ccode Try.prog [] (Try.f6.body.getD .skip) = some c6 := by kernel_rfl
theorem body6 : Try.f6.body = some (Try.f6.body.getD .skip) := rfl

theorem vecSums_C (a b : VV) (by' : RR) : PureC Try.prog 6 [aV a, aV b, aR by'] (.ret (aB true)) := by
  have h1 := few_C a
  have h2 := few_C b
  have h3 := few_C (some [by'])
  have hw := awake5_C
  by_cases c1 : fewB a = true
  · rw [c1] at h1
    by_cases c2 : fewB b = true
    · rw [c2] at h2
      by_cases c3 : fewB (some [by']) = true
      · rw [c3] at h3
        have fa := fewB_fits c1
        have fb := fewB_fits c2
        have fy : Fits by' 3 := (fewB_fits c3).2 by' (by simp [osl])
        have fa1 := fa.1
        have ra := row_C a 8 3 fa (by decide) (by decide)
        have rb := row_C b 8 3 fb (by decide) (by decide)
        have hof := lof_C by' (fy.mono (by decide))
        have hd := dot_C a b 8 3 fa fb (by decide) (by decide) (by decide)
        have hdd := ddot_C _ _ 8 3 (fitsD_rowD fa (by decide)) (fitsD_rowD fb (by decide)) (by decide) (by decide) (by decide)
        rw [ddot_row] at hdd
        have his := is_C (dotV a b) (dotV a b) ((fits_dotV fa fb (by decide)).mono (by decide))
        rw [decide_eq_true rfl] at his
        have hadd := vadd_R a b 8 3 fa fb (by decide) (by decide) (by decide)
        have hda := dadd_C _ _ 8 3 (fitsD_rowD fa (by decide)) (fitsD_rowD fb (by decide)) (by decide) (by decide) (by decide)
        rw [dadd_row] at hda
        have hr1 := rows_C (addQ a b) (Nat.le_trans (addQ_len fa fb) (by decide)) (fun q hq => (fits_addQ fa fb (by decide) q hq).mono (by decide))
        have hsc := vscale_R a by' 8 3 fa fy (by decide) (by decide) (by decide)
        have hr2 := rows_C (scaleQ a by'.val) (by rw [scaleQ_len]; omega) (fun q hq => (fits_scaleQ fa fy (by decide) q hq).mono (by decide))
        have hlx : (osl (rowO (rowD a))).length = (osl a).length := by rw [osl_rowO, rowD_len]
        have hgx : ∀ i (h : i < (osl (rowO (rowD a))).length), (osl (rowO (rowD a)))[i] = ((osl a)[i]'(by rw [hlx] at h; exact h)).val := fun i h => by simp only [osl_rowO, rowD, List.getElem_map]
        have hst := scaled_take a by'.val
        have hsq : scaleQ a by'.val = ((rowD a).take (osl a).length).map (· * by'.val) := by rw [← rowD_len a, List.take_length]; unfold scaleQ rowD; rw [List.map_map]; rfl
        generalize hx : rowO (rowD a) = x at *
        generalize hy : rowO (rowD b) = y at *
        generalize rowO (addQ a b) = sm at *
        generalize rowO ((addQ a b).map rawQ) = smr at *
        generalize rowO ((scaleQ a by'.val).map rawQ) = scr at *
        refine pureC_of (rs := [(RV.tmp 6)]) Try.func6 (fun a w => Try.call6 a w) body6 cc6 (by kernel_rfl) ?_
        rw [Try.ntmps6]
        simp only [frs, Nat.reduceAdd, Nat.reduceSub]
        repeat (first | (with_reducible first | refine zw10 ?_ | refine zw1 ?_ | refine zw4 ?_ | refine zw18 ?_ | refine zw19 ?_ | refine zw11 ?_ | refine zw12 ?_ | refine zw14 ?_ | refine zw2 ?_ | refine zw5 ?_ | refine zw9 ?_ | refine zw13 ?_ | refine zw3 ?_ | refine zw6 ?_ | refine zw8 ?_ | refine zw15 ?_ | refine zw16 ?_ | refine zw17 ?_ | refine blk_o rfl ?_) | ((with_reducible first | refine zb1 mixed (fun K hK => ?_) | refine zb2 (fun K hK => ?_) | refine zb3 (fun K hK => ?_)); simp (disch := first | omega | (simp only [dls]; omega)) only [std, cev, cstep, St.ev, putT, AV.cells?, AV.int?, AV.bool?, AV.str?, readN, mkAV, putN, guardWant, bound, Value.oneCell', opO, putSt, reduceIte, reduceCtorEq, Int.reduceToNat, Nat.reduceAdd, Nat.reduceSub, Nat.reduceMul, Int.reduceAdd, Int.reduceSub, Int.reduceMul, Int.reduceNeg, fU]; subst hK) | refine zcA (h1) rfl rfl rfl ?_ | (apply call_any_g (h2) rfl; (case hg => simp (disch := first | omega | (simp only [dls]; omega)) only [std, cev, cstep, St.ev, putT, AV.cells?, AV.int?, AV.bool?, AV.str?, readN, mkAV, putN, guardWant, bound, Value.oneCell', opO, putSt, reduceIte, reduceCtorEq, Int.reduceToNat, Nat.reduceAdd, Nat.reduceSub, Nat.reduceMul, Int.reduceAdd, Int.reduceSub, Int.reduceMul, Int.reduceNeg, fU]); (case hcl => (simp only [evs, St.ev, constAV, evl]; (repeat (first | exact closeAVs_nil | (apply closeAVs_cons; (first | (apply close_own3; rfl) | (refine close_ownO rfl ?_; assumption) | rfl)))); done)); (case hu => rfl)) | (apply call_flat_g (by simp (disch := first | omega | (simp only [dls]; omega)) only [std, cev, cstep, St.ev, putT, AV.cells?, AV.int?, AV.bool?, AV.str?, readN, mkAV, putN, guardWant, bound, Value.oneCell', opO, putSt, reduceIte, reduceCtorEq, Int.reduceToNat, Nat.reduceAdd, Nat.reduceSub, Nat.reduceMul, Int.reduceAdd, Int.reduceSub, Int.reduceMul, Int.reduceNeg, fU]) (h3) rfl; (case hcl => (simp only [evs, St.ev, constAV, evl]; (repeat (first | exact closeAVs_nil | (apply closeAVs_cons; (first | (apply close_own3; rfl) | (refine close_ownO rfl ?_; assumption) | rfl)))); done)); (case hf => rfl)) | refine zcA (ra) rfl rfl rfl ?_ | refine zcA (rb) rfl rfl rfl ?_)
        refine AWp.fgt ?_ (Fgt.openNil (i := 9) rfl 33 2)
        simp only [List.set_cons_succ, List.set_cons_zero, List.length_nil, List.length_cons, List.nil_append, List.cons_append, Nat.reduceAdd]
        refine awp_loop (fun (zz : Nat × (List Rat) × Nat × Bool) => ⟨(aV a :: aV b :: .junk :: .junk :: .junk :: .one (.ptr 0 0 0 0) :: aB false :: aD x :: aD y :: .one (.own 2 zz.2.2.1) :: .junk :: .junk :: .junk :: .junk :: .junk :: .junk :: .junk :: .junk :: .junk :: .junk :: .junk :: .junk :: .junk :: .junk :: .junk :: .junk :: .junk :: .junk :: .junk :: .junk :: .junk :: aD x :: aI (osl x).length :: aI zz.1 :: .junk :: .junk :: .junk :: .junk :: .junk :: .junk :: .junk :: .junk :: .junk :: .junk :: .junk :: .junk :: .junk :: .junk :: .junk :: .junk :: .junk :: .junk :: .junk :: .junk :: .junk :: .junk :: .junk :: .junk :: .junk :: .junk :: .junk :: .junk :: .junk :: .junk :: .junk :: .junk :: .junk :: .junk :: .junk :: .junk :: .junk :: []), [⟨0, 40, 3, [[.c (.val (.bool by'.minus)), .c (nr by'.size), .c (nr by'.den)]], true, true⟩, ⟨0, 40, 3, [[.c (.val (.bool by'.minus)), .c (nr by'.size), .c (nr by'.den)]], true, true⟩, ⟨zz.2.2.1, 33, 2, encB fD zz.2.1, true, zz.2.2.2⟩]⟩) (fun (zz : Nat × (List Rat) × Nat × Bool) => zz.1 ≤ (osl a).length ∧ zz.2.1 = ((rowD a).take zz.1).map (· * by'.val) ∧ zz.2.2.2 = !zz.2.1.isEmpty) (fun (zz : Nat × (List Rat) × Nat × Bool) => (osl a).length - zz.1) (0, [], 0, false) ?hI1 (Fgt.head (Nat.zero_le 3) [true, true, false, false, false, true, true, true, true, true, false, false, false, false, false, false, false, false, false, false, false, false, false, false, false, false, false, false, false, false, false, true, true, true] ?hT1 ?hH1) ?hB1
        case hT1 => first | (simp (disch := omega) only [hds, liveT, cleanAV, cleanCell, clean1, cleanBlk, reduceIte, Int.reduceSub, Int.reduceAdd, Int.reduceNeg, encB_nil]; done) | rfl
        case hH1 => first | (simp (disch := omega) only [hds, liveT, cleanAV, cleanCell, clean1, cleanBlk, reduceIte, Int.reduceSub, Int.reduceAdd, Int.reduceNeg, encB_nil]; done) | rfl
        · dsimp only; exact ⟨by omega, rfl, rfl⟩
        rintro ⟨i, out, v, nn⟩ ⟨hi, ho, hnn⟩
        dsimp only at hi ho hnn
        by_cases him : i = (osl a).length
        · have hq : scaleQ a by'.val = out := by rw [hsq, ho, him]
          rw [hq] at hr2
          repeat (first | (with_reducible first | refine zw10 ?_ | refine zw1 ?_ | refine zw4 ?_ | refine zw18 ?_ | refine zw19 ?_ | refine zw11 ?_ | refine zw12 ?_ | refine zw14 ?_ | refine zw2 ?_ | refine zw5 ?_ | refine zw9 ?_ | refine zw13 ?_ | refine zw3 ?_ | refine zw6 ?_ | refine zw8 ?_ | refine zw15 ?_ | refine zw16 ?_ | refine zw17 ?_ | refine blk_o rfl ?_) | ((with_reducible first | refine zb1 mixed (fun K hK => ?_) | refine zb2 (fun K hK => ?_) | refine zb3 (fun K hK => ?_)); simp (disch := first | omega | (simp only [dls]; omega)) only [std, cev, cstep, St.ev, putT, AV.cells?, AV.int?, AV.bool?, AV.str?, readN, mkAV, putN, guardWant, bound, Value.oneCell', opO, putSt, reduceIte, reduceCtorEq, Int.reduceToNat, Nat.reduceAdd, Nat.reduceSub, Nat.reduceMul, Int.reduceAdd, Int.reduceSub, Int.reduceMul, Int.reduceNeg, fU]; subst hK) | refine zcA (hd) rfl rfl rfl ?_ | refine zcA (hdd) rfl rfl rfl ?_ | refine zcA (his) rfl rfl rfl ?_ | (apply call_any_g (hadd) rfl; (case hg => simp (disch := first | omega | (simp only [dls]; omega)) only [std, cev, cstep, St.ev, putT, AV.cells?, AV.int?, AV.bool?, AV.str?, readN, mkAV, putN, guardWant, bound, Value.oneCell', opO, putSt, reduceIte, reduceCtorEq, Int.reduceToNat, Nat.reduceAdd, Nat.reduceSub, Nat.reduceMul, Int.reduceAdd, Int.reduceSub, Int.reduceMul, Int.reduceNeg, fU]); (case hcl => (simp only [evs, St.ev, constAV, evl]; (repeat (first | exact closeAVs_nil | (apply closeAVs_cons; (first | (apply close_own3; rfl) | (refine close_ownO rfl ?_; assumption) | rfl)))); done)); (case hu => rfl)) | (apply call_any_g (hda) rfl; (case hg => simp (disch := first | omega | (simp only [dls]; omega)) only [std, cev, cstep, St.ev, putT, AV.cells?, AV.int?, AV.bool?, AV.str?, readN, mkAV, putN, guardWant, bound, Value.oneCell', opO, putSt, reduceIte, reduceCtorEq, Int.reduceToNat, Nat.reduceAdd, Nat.reduceSub, Nat.reduceMul, Int.reduceAdd, Int.reduceSub, Int.reduceMul, Int.reduceNeg, fU]); (case hcl => (simp only [evs, St.ev, constAV, evl]; (repeat (first | exact closeAVs_nil | (apply closeAVs_cons; (first | (apply close_own3; rfl) | (refine close_ownO rfl ?_; assumption) | rfl)))); done)); (case hu => rfl)) | (apply call_any_g (hr1) rfl; (case hg => simp (disch := first | omega | (simp only [dls]; omega)) only [std, cev, cstep, St.ev, putT, AV.cells?, AV.int?, AV.bool?, AV.str?, readN, mkAV, putN, guardWant, bound, Value.oneCell', opO, putSt, reduceIte, reduceCtorEq, Int.reduceToNat, Nat.reduceAdd, Nat.reduceSub, Nat.reduceMul, Int.reduceAdd, Int.reduceSub, Int.reduceMul, Int.reduceNeg, fU]); (case hcl => (simp only [evs, St.ev, constAV, evl]; (repeat (first | exact closeAVs_nil | (apply closeAVs_cons; (first | (apply close_own3; rfl) | (refine close_ownO rfl ?_; assumption) | rfl)))); done)); (case hu => rfl)) | (apply call_any_g (hsc) rfl; (case hg => simp (disch := first | omega | (simp only [dls]; omega)) only [std, cev, cstep, St.ev, putT, AV.cells?, AV.int?, AV.bool?, AV.str?, readN, mkAV, putN, guardWant, bound, Value.oneCell', opO, putSt, reduceIte, reduceCtorEq, Int.reduceToNat, Nat.reduceAdd, Nat.reduceSub, Nat.reduceMul, Int.reduceAdd, Int.reduceSub, Int.reduceMul, Int.reduceNeg, fU]); (case hcl => (simp only [evs, St.ev, constAV, evl]; (repeat (first | exact closeAVs_nil | (apply closeAVs_cons; (first | (apply close_own3; rfl) | (refine close_ownO rfl ?_; assumption) | rfl)))); done)); (case hu => rfl)) | (apply call_flat_g (by simp (disch := first | omega | (simp only [dls]; omega)) only [std, cev, cstep, St.ev, putT, AV.cells?, AV.int?, AV.bool?, AV.str?, readN, mkAV, putN, guardWant, bound, Value.oneCell', opO, putSt, reduceIte, reduceCtorEq, Int.reduceToNat, Nat.reduceAdd, Nat.reduceSub, Nat.reduceMul, Int.reduceAdd, Int.reduceSub, Int.reduceMul, Int.reduceNeg, fU]) (hr2) rfl; (case hcl => (simp only [evs, St.ev, constAV, evl]; (repeat (first | exact closeAVs_nil | (apply closeAVs_cons; (first | (apply close_own3; rfl) | (refine close_ownO rfl ?_; assumption) | rfl)))); done)); (case hf => rfl)) | (apply call_any_g (hw) rfl; (case hg => simp (disch := first | omega | (simp only [dls]; omega)) only [std, cev, cstep, St.ev, putT, AV.cells?, AV.int?, AV.bool?, AV.str?, readN, mkAV, putN, guardWant, bound, Value.oneCell', opO, putSt, reduceIte, reduceCtorEq, Int.reduceToNat, Nat.reduceAdd, Nat.reduceSub, Nat.reduceMul, Int.reduceAdd, Int.reduceSub, Int.reduceMul, Int.reduceNeg, fU]); (case hcl => (simp only [evs, St.ev, constAV, evl]; (repeat (first | exact closeAVs_nil | (apply closeAVs_cons; (first | (apply close_own3; rfl) | (refine close_ownO rfl ?_; assumption) | rfl)))); done)); (case hu => rfl)))
          exact ⟨_, rfl, rfl⟩
        · have hlt : i < (osl a).length := by omega
          have hltx : i < (osl x).length := by omega
          have hm := qmul_C (osl a)[i].val by'.val (((fa.2 _ (List.getElem_mem hlt)).val (by decide)).mono (by decide)) ((fy.val (by decide)).mono (by decide))
          have hol : out.length = i := by rw [ho, List.length_map, List.length_take, rowD_len]; omega
          have hg := hgx i hltx
          repeat (first | (with_reducible first | refine zw10 ?_ | refine zw1 ?_ | refine zw4 ?_ | refine zw18 ?_ | refine zw19 ?_ | refine zw11 ?_ | refine zw12 ?_ | refine zw14 ?_ | refine zw2 ?_ | refine zw5 ?_ | refine zw9 ?_ | refine zw13 ?_ | refine zw3 ?_ | refine zw6 ?_ | refine zw8 ?_ | refine zw15 ?_ | refine zw16 ?_ | refine zw17 ?_ | refine blk_o rfl ?_) | ((with_reducible first | refine zb1 mixed (fun K hK => ?_) | refine zb2 (fun K hK => ?_) | refine zb3 (fun K hK => ?_)); simp (disch := first | omega | (simp only [dls]; omega)) only [std, cev, cstep, St.ev, putT, AV.cells?, AV.int?, AV.bool?, AV.str?, readN, mkAV, putN, guardWant, bound, Value.oneCell', opO, putSt, reduceIte, reduceCtorEq, Int.reduceToNat, Nat.reduceAdd, Nat.reduceSub, Nat.reduceMul, Int.reduceAdd, Int.reduceSub, Int.reduceMul, Int.reduceNeg, fU, fD, hg]; subst hK) | refine zcA (hof) rfl rfl rfl ?_ | refine zcA (hm) rfl rfl rfl ?_)
          refine ⟨(i + 1, out ++ [(osl a)[i].val * by'.val], v + 1, true), ?hI2, ?hM2, Fgt.head (Nat.zero_le 3) [true, true, false, false, false, true, true, true, true, true, false, false, false, false, false, false, false, false, false, false, false, false, false, false, false, false, false, false, false, false, false, true, true, true] ?hT2 ?hH2⟩
          case hT2 => first | (simp (disch := omega) only [hds, liveT, cleanAV, cleanCell, clean1, cleanBlk, reduceIte, Int.reduceSub, Int.reduceAdd, Int.reduceNeg, encB_snoc_D, List.isEmpty_cons, Bool.or_true, Bool.not_false]; done) | rfl
          case hH2 => first | (simp (disch := omega) only [hds, liveT, cleanAV, cleanCell, clean1, cleanBlk, reduceIte, Int.reduceSub, Int.reduceAdd, Int.reduceNeg, encB_snoc_D, List.isEmpty_cons, Bool.or_true, Bool.not_false]; done) | rfl
          · dsimp only
            exact ⟨by omega, by rw [ho, hst i hlt], by simp⟩
          · dsimp only; omega
      · have c3' : fewB (some [by']) = false := by simpa using c3
        rw [c3'] at h3
        refine pureC_of (rs := [(RV.tmp 6)]) Try.func6 (fun a w => Try.call6 a w) body6 cc6 (by kernel_rfl) ?_
        rw [Try.ntmps6]
        simp only [frs, Nat.reduceAdd, Nat.reduceSub]
        repeat (first | (with_reducible first | refine zw10 ?_ | refine zw1 ?_ | refine zw4 ?_ | refine zw18 ?_ | refine zw19 ?_ | refine zw11 ?_ | refine zw12 ?_ | refine zw14 ?_ | refine zw2 ?_ | refine zw5 ?_ | refine zw9 ?_ | refine zw13 ?_ | refine zw3 ?_ | refine zw6 ?_ | refine zw8 ?_ | refine zw15 ?_ | refine zw16 ?_ | refine zw17 ?_ | refine blk_o rfl ?_) | ((with_reducible first | refine zb1 mixed (fun K hK => ?_) | refine zb2 (fun K hK => ?_) | refine zb3 (fun K hK => ?_)); simp (disch := first | omega | (simp only [dls]; omega)) only [std, cev, cstep, St.ev, putT, AV.cells?, AV.int?, AV.bool?, AV.str?, readN, mkAV, putN, guardWant, bound, Value.oneCell', opO, putSt, reduceIte, reduceCtorEq, Int.reduceToNat, Nat.reduceAdd, Nat.reduceSub, Nat.reduceMul, Int.reduceAdd, Int.reduceSub, Int.reduceMul, Int.reduceNeg, fU]; subst hK) | refine zcA (h1) rfl rfl rfl ?_ | (apply call_any_g (h2) rfl; (case hg => simp (disch := first | omega | (simp only [dls]; omega)) only [std, cev, cstep, St.ev, putT, AV.cells?, AV.int?, AV.bool?, AV.str?, readN, mkAV, putN, guardWant, bound, Value.oneCell', opO, putSt, reduceIte, reduceCtorEq, Int.reduceToNat, Nat.reduceAdd, Nat.reduceSub, Nat.reduceMul, Int.reduceAdd, Int.reduceSub, Int.reduceMul, Int.reduceNeg, fU]); (case hcl => (simp only [evs, St.ev, constAV, evl]; (repeat (first | exact closeAVs_nil | (apply closeAVs_cons; (first | (apply close_own3; rfl) | (refine close_ownO rfl ?_; assumption) | rfl)))); done)); (case hu => rfl)) | (apply call_flat_g (by simp (disch := first | omega | (simp only [dls]; omega)) only [std, cev, cstep, St.ev, putT, AV.cells?, AV.int?, AV.bool?, AV.str?, readN, mkAV, putN, guardWant, bound, Value.oneCell', opO, putSt, reduceIte, reduceCtorEq, Int.reduceToNat, Nat.reduceAdd, Nat.reduceSub, Nat.reduceMul, Int.reduceAdd, Int.reduceSub, Int.reduceMul, Int.reduceNeg, fU]) (h3) rfl; (case hcl => (simp only [evs, St.ev, constAV, evl]; (repeat (first | exact closeAVs_nil | (apply closeAVs_cons; (first | (apply close_own3; rfl) | (refine close_ownO rfl ?_; assumption) | rfl)))); done)); (case hf => rfl)) | refine zcA (hw) rfl rfl rfl ?_)
        exact ⟨_, rfl, rfl⟩
    · have c2' : fewB b = false := by simpa using c2
      rw [c2'] at h2
      refine pureC_of (rs := [(RV.tmp 6)]) Try.func6 (fun a w => Try.call6 a w) body6 cc6 (by kernel_rfl) ?_
      rw [Try.ntmps6]
      simp only [frs, Nat.reduceAdd, Nat.reduceSub]
      repeat (first | (with_reducible first | refine zw10 ?_ | refine zw1 ?_ | refine zw4 ?_ | refine zw18 ?_ | refine zw19 ?_ | refine zw11 ?_ | refine zw12 ?_ | refine zw14 ?_ | refine zw2 ?_ | refine zw5 ?_ | refine zw9 ?_ | refine zw13 ?_ | refine zw3 ?_ | refine zw6 ?_ | refine zw8 ?_ | refine zw15 ?_ | refine zw16 ?_ | refine zw17 ?_ | refine blk_o rfl ?_) | ((with_reducible first | refine zb1 mixed (fun K hK => ?_) | refine zb2 (fun K hK => ?_) | refine zb3 (fun K hK => ?_)); simp (disch := first | omega | (simp only [dls]; omega)) only [std, cev, cstep, St.ev, putT, AV.cells?, AV.int?, AV.bool?, AV.str?, readN, mkAV, putN, guardWant, bound, Value.oneCell', opO, putSt, reduceIte, reduceCtorEq, Int.reduceToNat, Nat.reduceAdd, Nat.reduceSub, Nat.reduceMul, Int.reduceAdd, Int.reduceSub, Int.reduceMul, Int.reduceNeg, fU]; subst hK) | refine zcA (h1) rfl rfl rfl ?_ | (apply call_any_g (h2) rfl; (case hg => simp (disch := first | omega | (simp only [dls]; omega)) only [std, cev, cstep, St.ev, putT, AV.cells?, AV.int?, AV.bool?, AV.str?, readN, mkAV, putN, guardWant, bound, Value.oneCell', opO, putSt, reduceIte, reduceCtorEq, Int.reduceToNat, Nat.reduceAdd, Nat.reduceSub, Nat.reduceMul, Int.reduceAdd, Int.reduceSub, Int.reduceMul, Int.reduceNeg, fU]); (case hcl => (simp only [evs, St.ev, constAV, evl]; (repeat (first | exact closeAVs_nil | (apply closeAVs_cons; (first | (apply close_own3; rfl) | (refine close_ownO rfl ?_; assumption) | rfl)))); done)); (case hu => rfl)) | refine zcA (hw) rfl rfl rfl ?_)
      exact ⟨_, rfl, rfl⟩
  · have c1' : fewB a = false := by simpa using c1
    rw [c1'] at h1
    refine pureC_of (rs := [(RV.tmp 6)]) Try.func6 (fun a w => Try.call6 a w) body6 cc6 (by kernel_rfl) ?_
    rw [Try.ntmps6]
    simp only [frs, Nat.reduceAdd, Nat.reduceSub]
    repeat (first | (with_reducible first | refine zw10 ?_ | refine zw1 ?_ | refine zw4 ?_ | refine zw18 ?_ | refine zw19 ?_ | refine zw11 ?_ | refine zw12 ?_ | refine zw14 ?_ | refine zw2 ?_ | refine zw5 ?_ | refine zw9 ?_ | refine zw13 ?_ | refine zw3 ?_ | refine zw6 ?_ | refine zw8 ?_ | refine zw15 ?_ | refine zw16 ?_ | refine zw17 ?_ | refine blk_o rfl ?_) | ((with_reducible first | refine zb1 mixed (fun K hK => ?_) | refine zb2 (fun K hK => ?_) | refine zb3 (fun K hK => ?_)); simp (disch := first | omega | (simp only [dls]; omega)) only [std, cev, cstep, St.ev, putT, AV.cells?, AV.int?, AV.bool?, AV.str?, readN, mkAV, putN, guardWant, bound, Value.oneCell', opO, putSt, reduceIte, reduceCtorEq, Int.reduceToNat, Nat.reduceAdd, Nat.reduceSub, Nat.reduceMul, Int.reduceAdd, Int.reduceSub, Int.reduceMul, Int.reduceNeg, fU]; subst hK) | refine zcA (h1) rfl rfl rfl ?_ | refine zcA (hw) rfl rfl rfl ?_)
    exact ⟨_, rfl, rfl⟩

end Go.Proofs.Ytdhkdnmefeeclaa
