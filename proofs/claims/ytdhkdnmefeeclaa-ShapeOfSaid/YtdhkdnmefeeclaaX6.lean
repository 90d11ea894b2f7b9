/- Walks of shape: Column, With. -/
import Derived.Test.YtdhkdnmefeeclaaX4
set_option linter.unusedSimpArgs false
set_option linter.unusedVariables false
set_option linter.unnecessarySimpa false
set_option linter.unusedSimpArgs false
set_option linter.unusedVariables false
set_option maxRecDepth 100000
set_option maxHeartbeats 4000000
namespace Go.Proofs.Ytdhkdnmefeeclaa
open Go Go.Am Go.Proofs Go.RowKit Go.Off

theorem right_len {p : PB} (h : rightB p = true) : (osl p.C).length ≤ 5000 ∧ (osl p.A).length ≤ 90 ∧ (osl p.B).length = (osl p.A).length ∧ ∀ i (hi : i < (osl p.A).length), (osl (osl p.A)[i]).length = (osl p.C).length := by
  unfold rightB at h
  simp only [Bool.and_eq_true, decide_eq_true_eq] at h
  obtain ⟨h1, h2, h3, h4⟩ := h
  have h4' : anyI (rowBad p) (osl p.A).length = false := by simpa using h4
  refine ⟨h1, h2, h3, fun i hi => ?_⟩
  have := anyI_false h4' hi
  unfold rowBad at this
  rw [mAt_in hi] at this
  simpa using this
theorem make_C (r : RR) (L : Nat) (h : Fits r L) (hL : L ≤ 1000000) : PureC Try.prog 91 [aW (RRnum r), aN r.den] (.ret (aR (rawQ r.val))) := by
  have hmk := rmake_C (RRnum r) r.den (Nat.le_trans h.1 (by omega)) (Nat.le_trans h.2 (by omega))
  rw [num_top, denR_bot] at hmk
  exact hmk

/-- What the rows have at a place. -/
def colTo (p : PB) (k n : Nat) : List Rat := (List.range n).map fun i => qAt (mAt p.A i) k
theorem colTo_succ (p : PB) (k n : Nat) : colTo p k (n + 1) = colTo p k n ++ [qAt (mAt p.A n) k] := by unfold colTo; rw [List.range_succ, List.map_append]; rfl
theorem colTo_len (p : PB) (k n : Nat) : (colTo p k n).length = n := by unfold colTo; rw [List.length_map, List.length_range]

abbrev c78_k1 : CC := (.seq (.reg [⟨(some 44), none, (.mv (.tmp 5))⟩, ⟨(some 4), none, (.mv (.tmp 44))⟩]) .ret)
abbrev c78_b1 : CC := (.seq (.reg [⟨(some 26), none, (.bin .lss (.tmp 25) (.tmp 24))⟩]) (.seq (.cond (.tmp 26) .skip (.exit 0)) (.seq (.block 1 (.seq (.reg [⟨(some 27), none, (.iaddr 1 none (.tmp 23) (.tmp 25))⟩, ⟨(some 28), none, (.load 1 false (.tmp 27))⟩, ⟨(some 7), none, (.mv (.tmp 28))⟩]) (.reg [⟨(some 29), none, (.mv (.tmp 5))⟩, ⟨(some 30), none, (.mv (.tmp 7))⟩, ⟨(some 31), none, (.mv (.tmp 1))⟩, ⟨(some 32), none, (.iaddr 3 none (.tmp 30) (.tmp 31))⟩, ⟨(some 33), none, (.faddr 0 (.tmp 32))⟩, ⟨(some 34), none, (.load 2 true (.tmp 33))⟩, ⟨(some 35), none, (.mv (.tmp 7))⟩, ⟨(some 36), none, (.mv (.tmp 1))⟩, ⟨(some 37), none, (.iaddr 3 none (.tmp 35) (.tmp 36))⟩, ⟨(some 38), none, (.faddr 2 (.tmp 37))⟩, ⟨(some 39), none, (.load 1 false (.tmp 38))⟩, ⟨(some 40), none, (.callf (.func 91) [(.tmp 34), (.tmp 39)])⟩, ⟨(some 41), none, (.mkrow 40 3 [(.tmp 40)])⟩, ⟨(some 42), none, (.append 40 3 56 (.tmp 29) (.tmp 41))⟩, ⟨(some 5), none, (.mv (.tmp 42))⟩]))) (.reg [⟨(some 43), none, (.bin .add (.tmp 25) (.const (.int .i64 (1))))⟩, ⟨(some 25), none, (.mv (.tmp 43))⟩]))))
abbrev c78 : CC := (.seq (.reg [⟨(some 2), none, (.box 86 (.tmp 0))⟩, ⟨(some 4), none, (.mv (.const (.slice none 0 0)))⟩]) (.seq (.seq (.reg [⟨(some 8), none, (.load 3 true (.tmp 2))⟩, ⟨(some 9), none, (.callf (.func 70) [(.tmp 8)])⟩, ⟨(some 10), none, (.un .not (.tmp 9))⟩, ⟨(some 11), none, (.mv (.tmp 10))⟩, ⟨(some 12), (some (11, false)), (.mv (.tmp 1))⟩, ⟨(some 13), (some (11, false)), (.bin .lss (.tmp 12) (.const (.int .i64 (0))))⟩, ⟨(some 14), none, (.pick (.tmp 11) (.const (.bool true)) (.tmp 13))⟩, ⟨(some 15), none, (.mv (.tmp 14))⟩, ⟨(some 16), (some (15, false)), (.mv (.tmp 1))⟩, ⟨(some 17), (some (15, false)), (.faddr 2 (.tmp 2))⟩, ⟨(some 18), (some (15, false)), (.load 1 false (.tmp 17))⟩, ⟨(some 19), (some (15, false)), (.len false (.tmp 18))⟩, ⟨(some 20), (some (15, false)), (.bin .geq (.tmp 16) (.tmp 19))⟩, ⟨(some 21), none, (.pick (.tmp 15) (.const (.bool true)) (.tmp 20))⟩]) (.cond (.tmp 21) (.seq (.reg [⟨(some 4), none, (.mv (.const (.slice none 0 0)))⟩]) .ret) .skip)) (.seq (.reg [⟨(some 5), none, (.mv (.const (.slice none 0 0)))⟩]) (.seq (.seq (.reg [⟨(some 22), none, (.faddr 0 (.tmp 2))⟩, ⟨(some 23), none, (.load 1 false (.tmp 22))⟩, ⟨(some 24), none, (.len false (.tmp 23))⟩, ⟨(some 25), none, (.mv (.const (.int .i64 (0))))⟩]) (.block 0 (.loop c78_b1))) c78_k1))))
theorem cc78 : ccode Try.prog [] (Try.f78.body.getD .skip) = some c78 := by kernel_rfl
theorem body78 : Try.f78.body = some (Try.f78.body.getD .skip) := rfl

theorem col_no (p : PB) (k : Int) (h : rightB p = false ∨ k < 0 ∨ (osl p.C).length ≤ k) (hk1 : -9223372036854775808 ≤ k) (hk2 : k ≤ 9223372036854775807) : PureC Try.prog 78 [aP p, aI k] (.ret (aV none)) := by
  have hr := sright_C p
  cases c1 : rightB p with
  | false =>
    rw [c1] at hr
    refine pureC_of (rs := [(RV.tmp 4)]) Try.func78 (fun a w => Try.call78 a w) body78 cc78 (by kernel_rfl) ?_
    rw [Try.ntmps78]
    simp only [frs, Nat.reduceAdd, Nat.reduceSub]
    repeat (first | (with_reducible first | refine Way.imp ?_ | refine blk_o rfl ?_) | ((with_reducible refine WayR.imp (fun K hK => ?_)); simp (disch := first | omega | (simp only [dls]; omega)) only [std, reduceIte, reduceCtorEq, Int.reduceToNat, Nat.reduceAdd, Nat.reduceSub, Nat.reduceMul, Int.reduceAdd, Int.reduceSub, Int.reduceMul, Int.reduceNeg, fU]; subst hK) | refine zcA (hr) rfl rfl rfl ?_)
    exact ⟨_, rfl, rfl⟩
  | true =>
    rw [c1] at hr
    replace h := h.resolve_left (by rw [c1]; simp)
    by_cases h2 : k < 0
    · refine pureC_of (rs := [(RV.tmp 4)]) Try.func78 (fun a w => Try.call78 a w) body78 cc78 (by kernel_rfl) ?_
      rw [Try.ntmps78]
      simp only [frs, Nat.reduceAdd, Nat.reduceSub]
      repeat (first | (with_reducible first | refine Way.imp ?_ | refine blk_o rfl ?_) | ((with_reducible refine WayR.imp (fun K hK => ?_)); simp (disch := first | omega | (simp only [dls]; omega)) only [std, reduceIte, reduceCtorEq, Int.reduceToNat, Nat.reduceAdd, Nat.reduceSub, Nat.reduceMul, Int.reduceAdd, Int.reduceSub, Int.reduceMul, Int.reduceNeg, fU]; subst hK) | refine zcA (hr) rfl rfl rfl ?_)
      exact ⟨_, rfl, rfl⟩
    · have h3 := h.resolve_left h2
      refine pureC_of (rs := [(RV.tmp 4)]) Try.func78 (fun a w => Try.call78 a w) body78 cc78 (by kernel_rfl) ?_
      rw [Try.ntmps78]
      simp only [frs, Nat.reduceAdd, Nat.reduceSub]
      repeat (first | (with_reducible first | refine Way.imp ?_ | refine blk_o rfl ?_) | ((with_reducible refine WayR.imp (fun K hK => ?_)); simp (disch := first | omega | (simp only [dls]; omega)) only [std, reduceIte, reduceCtorEq, Int.reduceToNat, Nat.reduceAdd, Nat.reduceSub, Nat.reduceMul, Int.reduceAdd, Int.reduceSub, Int.reduceMul, Int.reduceNeg, fU]; subst hK) | refine zcA (hr) rfl rfl rfl ?_)
      exact ⟨_, rfl, rfl⟩
theorem col_yes (p : PB) (k n L : Nat) (hf : FitsM p.A n L) (hL : L ≤ 1000000) (hr0 : rightB p = true) (hk : k < (osl p.C).length) : PureC Try.prog 78 [aP p, aI k] (.ret (aV (rowO ((colTo p k (osl p.A).length).map rawQ)))) := by
  obtain ⟨l1, l2, l3, l4⟩ := right_len hr0
  have hr := sright_C p
  rw [hr0] at hr
  refine PureC.fresh_rowO (f := 78) (ty := 40) (g := fR) ?_
  refine pureC_of (rs := [(RV.tmp 4)]) Try.func78 (fun a w => Try.call78 a w) body78 cc78 (by kernel_rfl) ?_
  rw [Try.ntmps78]
  simp only [frs, Nat.reduceAdd, Nat.reduceSub]
  repeat (first | (with_reducible first | refine Way.imp ?_ | refine blk_o rfl ?_) | ((with_reducible refine WayR.imp (fun K hK => ?_)); simp (disch := first | omega | (simp only [dls]; omega)) only [std, reduceIte, reduceCtorEq, Int.reduceToNat, Nat.reduceAdd, Nat.reduceSub, Nat.reduceMul, Int.reduceAdd, Int.reduceSub, Int.reduceMul, Int.reduceNeg, fU]; subst hK) | refine zcA (hr) rfl rfl rfl ?_)
  refine AWp.fgt ?_ (Fgt.openNil (i := 5) rfl 40 3)
  simp only [List.set_cons_succ, List.set_cons_zero, List.length_nil, List.length_cons, List.nil_append, List.cons_append, Nat.reduceAdd]
  refine awp_loop (fun (zz : Nat × (List RR) × Nat × Bool) => ⟨(.junk :: aI k :: .junk :: .junk :: .junk :: .one (.own 1 zz.2.2.1) :: .junk :: .junk :: .junk :: .junk :: .junk :: .junk :: .junk :: .junk :: .junk :: .junk :: .junk :: .junk :: .junk :: .junk :: .junk :: .junk :: .junk :: aM p.A :: aI (osl p.A).length :: aI zz.1 :: .junk :: .junk :: .junk :: .junk :: .junk :: .junk :: .junk :: .junk :: .junk :: .junk :: .junk :: .junk :: .junk :: .junk :: .junk :: .junk :: .junk :: .junk :: .junk :: []), [⟨0, 86, 3, [[.c (encSl 1 fM p.A), .c (vr p.B), .c (vr p.C)]], true, true⟩, ⟨zz.2.2.1, 40, 3, encB fR zz.2.1, true, zz.2.2.2⟩]⟩) (fun (zz : Nat × (List RR) × Nat × Bool) => zz.1 ≤ (osl p.A).length ∧ zz.2.1 = (colTo p k zz.1).map rawQ ∧ zz.2.2.2 = !zz.2.1.isEmpty) (fun (zz : Nat × (List RR) × Nat × Bool) => (osl p.A).length - zz.1) (0, [], 0, false) ?hI1 (Fgt.head (Nat.zero_le 2) [false, true, false, false, false, true, false, false, false, false, false, false, false, false, false, false, false, false, false, false, false, false, false, true, true, true] ?hT1 ?hH1) ?hB1
  case hT1 => first | (simp (disch := omega) only [hds, liveT, cleanAV, cleanCell, clean1, cleanBlk, reduceIte, Int.reduceSub, Int.reduceAdd, Int.reduceNeg, encB_nil]; done) | rfl
  case hH1 => first | (simp (disch := omega) only [hds, liveT, cleanAV, cleanCell, clean1, cleanBlk, reduceIte, Int.reduceSub, Int.reduceAdd, Int.reduceNeg, encB_nil]; done) | rfl
  · dsimp only; exact ⟨Nat.zero_le _, rfl, rfl⟩
  rintro ⟨i, out, v, nn⟩ ⟨hi, ho, hnn⟩
  dsimp only at hi ho hnn
  by_cases him : i = (osl p.A).length
  · repeat (first | (with_reducible first | refine Way.imp ?_ | refine blk_o rfl ?_) | ((with_reducible refine WayR.imp (fun K hK => ?_)); simp (disch := first | omega | (simp only [dls]; omega)) only [std, reduceIte, reduceCtorEq, Int.reduceToNat, Nat.reduceAdd, Nat.reduceSub, Nat.reduceMul, Int.reduceAdd, Int.reduceSub, Int.reduceMul, Int.reduceNeg, fU]; subst hK))
    refine ⟨_, rfl, ?_⟩
    rw [him] at ho
    rw [← ho, ← hnn]
    exact Ends.fresh_enc rfl
  · have hlt : i < (osl p.A).length := by omega
    have hrl := l4 i hlt
    have hkl : k < (osl (osl p.A)[i]).length := by omega
    have hmk := make_C (osl (osl p.A)[i])[k] L ((hf.2 _ (List.getElem_mem hlt)).2 _ (List.getElem_mem hkl)) hL
    have hol : out.length = i := by rw [ho, List.length_map, colTo_len]
    have hq : qAt (mAt p.A i) k = (osl (osl p.A)[i])[k].val := by rw [mAt_in hlt]; unfold qAt; rw [rAt_in hkl]
    repeat (first | (with_reducible first | refine Way.imp ?_ | refine blk_o rfl ?_) | ((with_reducible refine WayR.imp (fun K hK => ?_)); simp (disch := first | omega | (simp only [dls]; omega)) only [std, reduceIte, reduceCtorEq, Int.reduceToNat, Nat.reduceAdd, Nat.reduceSub, Nat.reduceMul, Int.reduceAdd, Int.reduceSub, Int.reduceMul, Int.reduceNeg, fU, fM, fR]; subst hK) | refine zcA (hmk) rfl rfl rfl ?_)
    refine ⟨(i + 1, out ++ [rawQ (osl (osl p.A)[i])[k].val], v + 1, true), ?hI2, ?hM2, Fgt.head (Nat.zero_le 2) [false, true, false, false, false, true, false, false, false, false, false, false, false, false, false, false, false, false, false, false, false, false, false, true, true, true] ?hT2 ?hH2⟩
    case hT2 => first | (simp (disch := omega) only [hds, liveT, cleanAV, cleanCell, clean1, cleanBlk, reduceIte, Int.reduceSub, Int.reduceAdd, Int.reduceNeg, encB_snoc_row, List.isEmpty_cons, Bool.or_true, Bool.not_false]; done) | rfl
    case hH2 => first | (simp (disch := omega) only [hds, liveT, cleanAV, cleanCell, clean1, cleanBlk, reduceIte, Int.reduceSub, Int.reduceAdd, Int.reduceNeg, encB_snoc_row, List.isEmpty_cons, Bool.or_true, Bool.not_false]; done) | rfl
    · dsimp only
      exact ⟨by omega, by rw [ho, colTo_succ, List.map_append, hq]; rfl, by simp⟩
    · dsimp only; omega

def withRow (v : VV) (r : RR) : List Rat := ((osl v).map fun x => x.val) ++ [r.val]
def withTo (p : PB) (c : VV) (k : Nat) : QM := (List.range k).map fun i => withRow (mAt p.A i) (rAt c i)
theorem withTo_succ (p : PB) (c : VV) (k : Nat) : withTo p c (k + 1) = withTo p c k ++ [withRow (mAt p.A k) (rAt c k)] := by unfold withTo; rw [List.range_succ, List.map_append]; rfl
theorem withTo_len (p : PB) (c : VV) (k : Nat) : (withTo p c k).length = k := by unfold withTo; rw [List.length_map, List.length_range]
def withP (p : PB) (c : VV) (cost : RR) : PB := ⟨rowO ((withTo p c (osl p.A).length).map rowV), rowV ((osl p.B).map fun r => r.val), rowV (withRow p.C cost)⟩

theorem vscale_N (a : VV) (by' : RR) (n L : Nat) (ha : FitsV a n L) (hb : Fits by' L) (hn : n ≤ 1000000) (hL : 1 ≤ L) (hL2 : L ≤ 1000000) : PureC Try.prog 45 [aV a, aR by'] (.fresh 40 3 (((scaleQ a by'.val).map rawQ).map fR) (!((scaleQ a by'.val).map rawQ).isEmpty)) :=
  (vscale_C a by' n L ha hb hn hL hL2).to (by rw [List.map_map, List.isEmpty_map]; rfl)
theorem withRow_map (v : VV) (r : RR) : (withRow v r).map rawQ = ((osl v).map fun x => x.val).map rawQ ++ [rawQ r.val] := by unfold withRow; rw [List.map_append]; rfl
theorem withRow_nn (v : VV) (r : RR) : true = !((withRow v r).map rawQ).isEmpty := by rw [withRow_map]; cases ((osl v).map fun x => x.val).map rawQ <;> rfl

/-- A problem of which two rows are our own as a call hands it on. -/
theorem close_W {h : List Blk} {a c va vc ta tc : Nat} {la lc na nc : Bool} {A : List VV} {C : List RR} {B : VV} {x : CV} (h1 : h[a]? = some ⟨va, ta, 1, encB fM A, la, na⟩) (h3 : h[c]? = some ⟨vc, tc, 3, encB fR C, lc, nc⟩)
    (n1 : na = !A.isEmpty) (n3 : nc = !C.isEmpty) :
    closeRes h (.tup [.agg [.own a va, .c (vr B), .own c vc], .one (.c x)]) = some (.tup [aP ⟨rowO A, B, rowO C⟩, .one (.c x)]) := by
  have e1 := closeCV_ownO (n := 2) h1 (by decide) n1
  have e3 := closeCV_ownO (n := 2) h3 (by decide) n3
  unfold closeRes
  simp [closeAV, closeFn, closeCell, closeCV] at *
  simp [e1, e3]

abbrev c77_k1 : CC := (.seq (.reg [⟨(some 75), none, (.load 3 true (.tmp 8))⟩, ⟨none, none, (.store 3 (.tmp 6) (.tmp 75))⟩, ⟨(some 7), none, (.mv (.const (.bool true)))⟩]) .ret)
abbrev c77_b1 : CC := (.seq (.reg [⟨(some 49), none, (.bin .lss (.tmp 48) (.tmp 47))⟩]) (.seq (.cond (.tmp 49) .skip (.exit 0)) (.seq (.block 1 (.seq (.reg [⟨(some 50), none, (.mv (.tmp 48))⟩, ⟨(some 51), none, (.iaddr 1 none (.tmp 46) (.tmp 48))⟩, ⟨(some 52), none, (.load 1 false (.tmp 51))⟩, ⟨(some 9), none, (.mv (.tmp 50))⟩, ⟨(some 10), none, (.mv (.tmp 52))⟩]) (.regn false [⟨(some 55), none, (.mv (.tmp 10))⟩, ⟨(some 56), none, (.callf (.func 59) [(.const (.int .i64 (1)))])⟩, ⟨(some 57), none, (.callf (.func 45) [(.tmp 55), (.tmp 56)])⟩, ⟨(some 58), none, (.mv (.tmp 1))⟩, ⟨(some 59), none, (.mv (.tmp 9))⟩, ⟨(some 60), none, (.iaddr 3 none (.tmp 58) (.tmp 59))⟩, ⟨(some 61), none, (.faddr 0 (.tmp 60))⟩, ⟨(some 62), none, (.load 2 true (.tmp 61))⟩, ⟨(some 63), none, (.mv (.tmp 1))⟩, ⟨(some 64), none, (.mv (.tmp 9))⟩, ⟨(some 65), none, (.iaddr 3 none (.tmp 63) (.tmp 64))⟩, ⟨(some 66), none, (.faddr 2 (.tmp 65))⟩, ⟨(some 67), none, (.load 1 false (.tmp 66))⟩, ⟨(some 68), none, (.callf (.func 91) [(.tmp 62), (.tmp 67)])⟩, ⟨(some 69), none, (.mkrowc 3 [(.tmp 68)])⟩, ⟨(some 70), none, (.append 40 3 56 (.tmp 57) (.tmp 69))⟩, ⟨(some 53), none, (.faddr 0 (.tmp 8))⟩, ⟨(some 54), none, (.load 1 false (.tmp 53))⟩, ⟨(some 71), none, (.mkrow 22 1 [(.tmp 70)])⟩, ⟨(some 72), none, (.append 22 1 24 (.tmp 54) (.tmp 71))⟩, ⟨(some 73), none, (.faddr 0 (.tmp 8))⟩, ⟨none, none, (.store 1 (.tmp 73) (.tmp 72))⟩]))) (.reg [⟨(some 74), none, (.bin .add (.tmp 48) (.const (.int .i64 (1))))⟩, ⟨(some 48), none, (.mv (.tmp 74))⟩]))))
abbrev c77 : CC := (.seq (.reg [⟨(some 3), none, (.box 86 (.tmp 0))⟩, ⟨(some 5), none, (.box 40 (.tmp 2))⟩, ⟨(some 6), none, (.new 86 [(.slice none 0 0), (.slice none 0 0), (.slice none 0 0)])⟩, ⟨(some 7), none, (.mv (.const (.bool false)))⟩]) (.seq (.seq (.reg [⟨(some 11), none, (.load 3 true (.tmp 3))⟩, ⟨(some 12), none, (.callf (.func 70) [(.tmp 11)])⟩, ⟨(some 13), none, (.un .not (.tmp 12))⟩, ⟨(some 14), none, (.mv (.tmp 13))⟩, ⟨(some 15), (some (14, false)), (.faddr 2 (.tmp 3))⟩, ⟨(some 16), (some (14, false)), (.load 1 false (.tmp 15))⟩, ⟨(some 17), (some (14, false)), (.len false (.tmp 16))⟩, ⟨(some 18), (some (14, false)), (.bin .geq (.tmp 17) (.const (.int .i64 (5000))))⟩, ⟨(some 19), none, (.pick (.tmp 14) (.const (.bool true)) (.tmp 18))⟩, ⟨(some 20), none, (.mv (.tmp 19))⟩, ⟨(some 21), (some (20, false)), (.mv (.tmp 1))⟩, ⟨(some 22), (some (20, false)), (.len false (.tmp 21))⟩, ⟨(some 23), (some (20, false)), (.faddr 0 (.tmp 3))⟩, ⟨(some 24), (some (20, false)), (.load 1 false (.tmp 23))⟩, ⟨(some 25), (some (20, false)), (.len false (.tmp 24))⟩, ⟨(some 26), (some (20, false)), (.bin .neq (.tmp 22) (.tmp 25))⟩, ⟨(some 27), none, (.pick (.tmp 20) (.const (.bool true)) (.tmp 26))⟩]) (.cond (.tmp 27) (.seq (.reg [⟨(some 28), none, (.build [(.slice none 0 0), (.slice none 0 0), (.slice none 0 0)] [])⟩, ⟨none, none, (.store 3 (.tmp 6) (.tmp 28))⟩, ⟨(some 7), none, (.mv (.const (.bool false)))⟩]) .ret) .skip)) (.seq (.regn true [⟨(some 29), none, (.faddr 1 (.tmp 3))⟩, ⟨(some 30), none, (.load 1 false (.tmp 29))⟩, ⟨(some 31), none, (.callf (.func 59) [(.const (.int .i64 (1)))])⟩, ⟨(some 32), none, (.callf (.func 45) [(.tmp 30), (.tmp 31)])⟩, ⟨(some 33), none, (.faddr 2 (.tmp 3))⟩, ⟨(some 34), none, (.load 1 false (.tmp 33))⟩, ⟨(some 35), none, (.callf (.func 59) [(.const (.int .i64 (1)))])⟩, ⟨(some 36), none, (.callf (.func 45) [(.tmp 34), (.tmp 35)])⟩, ⟨(some 37), none, (.faddr 0 (.tmp 5))⟩, ⟨(some 38), none, (.load 2 true (.tmp 37))⟩, ⟨(some 39), none, (.faddr 2 (.tmp 5))⟩, ⟨(some 40), none, (.load 1 false (.tmp 39))⟩, ⟨(some 41), none, (.callf (.func 91) [(.tmp 38), (.tmp 40)])⟩, ⟨(some 42), none, (.mkrowc 3 [(.tmp 41)])⟩, ⟨(some 43), none, (.append 40 3 56 (.tmp 36) (.tmp 42))⟩, ⟨(some 44), none, (.build [(.slice none 0 0), (.slice none 0 0), (.slice none 0 0)] [(1, (1, (.tmp 32))), (2, (1, (.tmp 43)))])⟩, ⟨(some 8), none, (.fill 86 [(.slice none 0 0), (.slice none 0 0), (.slice none 0 0)])⟩, ⟨none, none, (.store 3 (.tmp 8) (.tmp 44))⟩]) (.seq (.seq (.reg [⟨(some 45), none, (.faddr 0 (.tmp 3))⟩, ⟨(some 46), none, (.load 1 false (.tmp 45))⟩, ⟨(some 47), none, (.len false (.tmp 46))⟩, ⟨(some 48), none, (.mv (.const (.int .i64 (0))))⟩]) (.block 0 (.loop c77_b1))) c77_k1))))
theorem cc77 : ccode Try.prog [] (Try.f77.body.getD .skip) = some c77 := by kernel_rfl
theorem body77 : Try.f77.body = some (Try.f77.body.getD .skip) := rfl

theorem with_no (p : PB) (c : VV) (cost : RR) (h : rightB p = false ∨ 5000 ≤ (osl p.C).length ∨ (osl c).length ≠ (osl p.A).length) : PureC Try.prog 77 [aP p, aV c, aR cost] (.ret (.tup [aP ⟨none, none, none⟩, aB false])) := by
  have hr := sright_C p
  cases c1 : rightB p with
  | false =>
    rw [c1] at hr
    refine pureC_of (rs := [(RV.cell 6 3 true), (RV.tmp 7)]) Try.func77 (fun a w => Try.call77 a w) body77 cc77 (by kernel_rfl) ?_
    rw [Try.ntmps77]
    simp only [frs, Nat.reduceAdd, Nat.reduceSub]
    repeat (first | (with_reducible first | refine Way.imp ?_ | refine blk_o rfl ?_) | ((with_reducible refine WayR.imp (fun K hK => ?_)); simp (disch := first | omega | (simp only [dls]; omega)) only [std, reduceIte, reduceCtorEq, Int.reduceToNat, Nat.reduceAdd, Nat.reduceSub, Nat.reduceMul, Int.reduceAdd, Int.reduceSub, Int.reduceMul, Int.reduceNeg, fU]; subst hK) | refine zcA (hr) rfl rfl rfl ?_)
    exact ⟨_, rfl, rfl⟩
  | true =>
    rw [c1] at hr
    replace h := h.resolve_left (by rw [c1]; simp)
    by_cases h2 : 5000 ≤ (osl p.C).length
    · refine pureC_of (rs := [(RV.cell 6 3 true), (RV.tmp 7)]) Try.func77 (fun a w => Try.call77 a w) body77 cc77 (by kernel_rfl) ?_
      rw [Try.ntmps77]
      simp only [frs, Nat.reduceAdd, Nat.reduceSub]
      repeat (first | (with_reducible first | refine Way.imp ?_ | refine blk_o rfl ?_) | ((with_reducible refine WayR.imp (fun K hK => ?_)); simp (disch := first | omega | (simp only [dls]; omega)) only [std, reduceIte, reduceCtorEq, Int.reduceToNat, Nat.reduceAdd, Nat.reduceSub, Nat.reduceMul, Int.reduceAdd, Int.reduceSub, Int.reduceMul, Int.reduceNeg, fU]; subst hK) | refine zcA (hr) rfl rfl rfl ?_)
      exact ⟨_, rfl, rfl⟩
    · have h3 := h.resolve_left h2
      refine pureC_of (rs := [(RV.cell 6 3 true), (RV.tmp 7)]) Try.func77 (fun a w => Try.call77 a w) body77 cc77 (by kernel_rfl) ?_
      rw [Try.ntmps77]
      simp only [frs, Nat.reduceAdd, Nat.reduceSub]
      repeat (first | (with_reducible first | refine Way.imp ?_ | refine blk_o rfl ?_) | ((with_reducible refine WayR.imp (fun K hK => ?_)); simp (disch := first | omega | (simp only [dls]; omega)) only [std, reduceIte, reduceCtorEq, Int.reduceToNat, Nat.reduceAdd, Nat.reduceSub, Nat.reduceMul, Int.reduceAdd, Int.reduceSub, Int.reduceMul, Int.reduceNeg, fU]; subst hK) | refine zcA (hr) rfl rfl rfl ?_)
      exact ⟨_, rfl, rfl⟩

theorem with_yes (p : PB) (c : VV) (cost : RR) (n L : Nat) (hf : FitsP p n L) (hc : FitsV c n L) (hco : Fits cost L) (hn : n ≤ 1000) (hL : 1 ≤ L) (hL2 : L ≤ 100000) (hr0 : rightB p = true) (h5 : (osl p.C).length < 5000) (hcl : (osl c).length = (osl p.A).length) :
    PureC Try.prog 77 [aP p, aV c, aR cost] (.ret (.tup [aP (withP p c cost), aB true])) := by
  obtain ⟨l1, l2, l3, l4⟩ := right_len hr0
  have hr := sright_C p
  rw [hr0] at hr
  have hint := rint_C 1 (by omega) (by omega)
  rw [show ((1 : Int) : Rat) = 1 from rfl] at hint
  have hsq : ∀ v : VV, scaleQ v (rawQ 1).val = (osl v).map fun r => r.val := fun v => by unfold scaleQ; rw [rawQ_val]; simp only [Rat.mul_one]
  have hsB := vscale_R p.B (rawQ 1) n L hf.2.1 (fits_rawQ (fitsQ_one L hL)) (by omega) hL (by omega)
  have hsC := vscale_N p.C (rawQ 1) n L hf.2.2 (fits_rawQ (fitsQ_one L hL)) (by omega) hL (by omega)
  rw [hsq] at hsB hsC
  have hmk := make_C cost L hco (by omega)
  refine pureC_of (rs := [(RV.cell 6 3 true), (RV.tmp 7)]) Try.func77 (fun a w => Try.call77 a w) body77 cc77 (by kernel_rfl) ?_
  rw [Try.ntmps77]
  simp only [frs, Nat.reduceAdd, Nat.reduceSub]
  repeat (first | (with_reducible first | refine Way.imp ?_ | refine blk_o rfl ?_) | ((with_reducible refine WayR.imp (fun K hK => ?_)); simp (disch := first | omega | (simp only [dls]; omega)) only [std, reduceIte, reduceCtorEq, Int.reduceToNat, Nat.reduceAdd, Nat.reduceSub, Nat.reduceMul, Int.reduceAdd, Int.reduceSub, Int.reduceMul, Int.reduceNeg, fU, hcl, List.length_map, encB_snoc_row, List.isEmpty_cons, Bool.or_true, Bool.not_false]; subst hK) | refine zcA (hr) rfl rfl rfl ?_ | refine zcA (hint) rfl rfl rfl ?_ | refine zcA (hsB) rfl rfl rfl ?_ | refine zcA (hint) rfl rfl rfl ?_ | (apply call_new (hsC) rfl; (case hcl => (simp only [evs, St.ev, constAV, evl]; (repeat (first | exact closeAVs_nil | (apply closeAVs_cons; (first | (refine close_own3 rfl (by decide)) | (refine close_ownO rfl (by decide) ?_; assumption) | rfl)))); done)); (case hu => (simp only [evs, St.ev, constAV, evl]; (repeat (first | exact used_nil | (apply used_cons; (first | (apply used_own3; rfl) | rfl)))); done)); (case hh => ((simp only [fzl, Nat.reduceBEq, Nat.reduceAdd, Bool.false_eq_true, if_true, if_false, reduceIte]) <;> rfl))) | refine zcA (hmk) rfl rfl rfl ?_)
  rw [← withRow_map]
  refine AWp.fgt ?_ (Fgt.phantom _ 22 1)
  refine AWp.fgt ?_ (Fgt.cellsOpen (b := 3) (els' := [[.own 5 0, .c (vr (rowV ((osl p.B).map fun r => r.val))), .own 4 1]]) rfl (.cons (.cons (.inr ⟨rfl, 5, _, rfl, rfl, rfl⟩) (.cons (.inl rfl) (.cons (.inl rfl) .nil))) .nil))
  simp only [List.cons_append, List.nil_append, List.set_cons_succ, List.set_cons_zero]
  refine awp_loop (fun (zz : Nat × (List VV) × Nat × Bool) => ⟨(.junk :: aV c :: .junk :: .junk :: .junk :: .junk :: .one (.ptr 2 0 0 0) :: .junk :: .one (.ptr 3 1 0 0) :: .junk :: .junk :: .junk :: .junk :: .junk :: .junk :: .junk :: .junk :: .junk :: .junk :: .junk :: .junk :: .junk :: .junk :: .junk :: .junk :: .junk :: .junk :: .junk :: .junk :: .junk :: .junk :: .junk :: .junk :: .junk :: .junk :: .junk :: .junk :: .junk :: .junk :: .junk :: .junk :: .junk :: .junk :: .junk :: .junk :: .junk :: aM p.A :: aI (osl p.A).length :: aI zz.1 :: .junk :: .junk :: .junk :: .junk :: .junk :: .junk :: .junk :: .junk :: .junk :: .junk :: .junk :: .junk :: .junk :: .junk :: .junk :: .junk :: .junk :: .junk :: .junk :: .junk :: .junk :: .junk :: .junk :: .junk :: .junk :: .junk :: .junk :: []), [⟨0, 86, 3, [[.c (encSl 1 fM p.A), .c (vr p.B), .c (vr p.C)]], true, true⟩, ⟨0, 40, 3, [[.c (.val (.bool cost.minus)), .c (nr cost.size), .c (nr cost.den)]], true, true⟩, ⟨0, 86, 3, [[.c (.val (.slice none 0 0)), .c (.val (.slice none 0 0)), .c (.val (.slice none 0 0))]], true, true⟩, ⟨1, 86, 3, [[.own 5 zz.2.2.1, .c (vr (rowV ((osl p.B).map fun r => r.val))), .own 4 1]], true, true⟩, ⟨1, 40, 3, encB fR ((withRow p.C cost).map rawQ), true, true⟩, ⟨zz.2.2.1, 22, 1, encB fM zz.2.1, true, zz.2.2.2⟩]⟩) (fun (zz : Nat × (List VV) × Nat × Bool) => zz.1 ≤ (osl p.A).length ∧ zz.2.1 = (withTo p c zz.1).map rowV ∧ zz.2.2.2 = !zz.2.1.isEmpty) (fun (zz : Nat × (List VV) × Nat × Bool) => (osl p.A).length - zz.1) (0, [], 0, false) ?hI3 (Fgt.head (Nat.zero_le 6) (false :: true :: false :: false :: false :: false :: true :: false :: true :: false :: false :: false :: false :: false :: false :: false :: false :: false :: false :: false :: false :: false :: false :: false :: false :: false :: false :: false :: false :: false :: false :: false :: false :: false :: false :: false :: false :: false :: false :: false :: false :: false :: false :: false :: false :: false :: true :: true :: true :: []) ?hT3 ?hH3) ?hB3
  case hT3 => first | (simp (disch := omega) only [hds, liveT, cleanAV, cleanCell, clean1, cleanBlk, reduceIte, Int.reduceSub, Int.reduceAdd, Int.reduceNeg, encB_nil]; done) | rfl
  case hH3 => first | (simp (disch := omega) only [hds, liveT, cleanAV, cleanCell, clean1, cleanBlk, reduceIte, Int.reduceSub, Int.reduceAdd, Int.reduceNeg, encB_nil]; done) | rfl
  · dsimp only; exact ⟨Nat.zero_le _, rfl, rfl⟩
  rintro ⟨i, out, va, na⟩ ⟨hi, ho, hna⟩
  dsimp only at hi ho hna
  by_cases him : i = (osl p.A).length
  · repeat (first | (with_reducible first | refine Way.imp ?_ | refine blk_o rfl ?_) | ((with_reducible refine WayR.imp (fun K hK => ?_)); simp (disch := first | omega | (simp only [dls]; omega)) only [std, reduceIte, reduceCtorEq, Int.reduceToNat, Nat.reduceAdd, Nat.reduceSub, Nat.reduceMul, Int.reduceAdd, Int.reduceSub, Int.reduceMul, Int.reduceNeg, fU]; subst hK))
    refine ⟨_, rfl, ?_⟩
    rw [him] at ho
    show closeRes _ (.tup [.agg [.own 5 va, .c (vr (rowV ((osl p.B).map fun r => r.val))), .own 4 1], .one (.c (.val (.bool true)))]) = _
    rw [close_W (A := out) (C := (withRow p.C cost).map rawQ) rfl rfl hna (withRow_nn _ _), ho]
    rfl
  · have hlt : i < (osl p.A).length := by omega
    have hltc : i < (osl c).length := by omega
    have hrf := hf.1.2 _ (List.getElem_mem hlt)
    have hsR := vscale_N (osl p.A)[i] (rawQ 1) n L hrf (fits_rawQ (fitsQ_one L hL)) (by omega) hL (by omega)
    rw [hsq] at hsR
    have hmc := make_C (osl c)[i] L (hc.2 _ (List.getElem_mem hltc)) (by omega)
    have hol : out.length = i := by rw [ho, List.length_map, withTo_len]
    have hrl := l4 i hlt
    repeat (first | (with_reducible first | refine Way.imp ?_ | refine blk_o rfl ?_) | ((with_reducible refine WayR.imp (fun K hK => ?_)); simp (disch := first | omega | (simp only [dls]; omega)) only [std, reduceIte, reduceCtorEq, Int.reduceToNat, Nat.reduceAdd, Nat.reduceSub, Nat.reduceMul, Int.reduceAdd, Int.reduceSub, Int.reduceMul, Int.reduceNeg, fU, fM, fR, List.length_map, encB_snoc_row, List.isEmpty_cons, Bool.or_true, Bool.not_false]; subst hK) | refine zcA (hint) rfl rfl rfl ?_ | (apply call_new (hsR) rfl; (case hcl => (simp only [evs, St.ev, constAV, evl]; (repeat (first | exact closeAVs_nil | (apply closeAVs_cons; (first | (refine close_own3 rfl (by decide)) | (refine close_ownO rfl (by decide) ?_; assumption) | rfl)))); done)); (case hu => (simp only [evs, St.ev, constAV, evl]; (repeat (first | exact used_nil | (apply used_cons; (first | (apply used_own3; rfl) | rfl)))); done)); (case hh => ((simp only [fzl, Nat.reduceBEq, Nat.reduceAdd, Bool.false_eq_true, if_true, if_false, reduceIte]) <;> rfl))) | refine zcA (hmc) rfl rfl rfl ?_)
    rw [← withRow_map]
    refine ⟨(i + 1, out ++ [rowV (withRow (osl p.A)[i] (osl c)[i])], va + 1, true), ⟨by dsimp only; omega, ?_, ?_⟩, by dsimp only; omega, Fgt.trans (Fgt.cellSnocO (b := 5) (c := 6) (f := fM) (l := out) (g := fR) (r := (withRow (osl p.A)[i] (osl c)[i]).map rawQ) (x := rowV (withRow (osl p.A)[i] (osl c)[i])) rfl rfl (by decide) (withRow_nn _ _) rfl (by decide)) ?_⟩
    · dsimp only; rw [ho, withTo_succ, List.map_append, mAt_in hlt, rAt_in hltc]; rfl
    · dsimp only; cases out <;> rfl
    · rw [freeze_from]
      simp only [fzl, Nat.reduceBEq, Nat.reduceAdd, Bool.false_eq_true, if_true, if_false, reduceIte, List.set_cons_zero, List.set_cons_succ]
      refine Fgt.head (Nat.zero_le 6) (false :: true :: false :: false :: false :: false :: true :: false :: true :: false :: false :: false :: false :: false :: false :: false :: false :: false :: false :: false :: false :: false :: false :: false :: false :: false :: false :: false :: false :: false :: false :: false :: false :: false :: false :: false :: false :: false :: false :: false :: false :: false :: false :: false :: false :: false :: true :: true :: true :: []) ?hT4 ?hH4
      case hT4 => first | (simp (disch := omega) only [hds, liveT, cleanAV, cleanCell, clean1, cleanBlk, reduceIte, Int.reduceSub, Int.reduceAdd, Int.reduceNeg, List.isEmpty_cons, Bool.or_true, Bool.not_false]; done) | rfl
      case hH4 => first | (simp (disch := omega) only [hds, liveT, cleanAV, cleanCell, clean1, cleanBlk, reduceIte, Int.reduceSub, Int.reduceAdd, Int.reduceNeg, List.isEmpty_cons, Bool.or_true, Bool.not_false]; done) | rfl

end Go.Proofs.Ytdhkdnmefeeclaa
set_option linter.unusedSimpArgs false
set_option linter.unusedVariables false
set_option maxRecDepth 100000
set_option maxHeartbeats 4000000
namespace Go.Proofs.Ytdhkdnmefeeclaa
open Go Go.Am Go.Proofs Go.RowKit Go.Off

abbrev cutV (n : Nat) (v : VV) : VV := Option.map (fun x => List.take n x) v
theorem osl_cut (n : Nat) (v : VV) : osl (cutV n v) = (osl v).take n := by cases v <;> simp [osl]
theorem qAt_cut {n i : Nat} (v : VV) (h : i < n) : qAt (cutV n v) i = qAt v i := by
  unfold qAt rAt
  rw [osl_cut, List.getD_eq_getElem?_getD, List.getD_eq_getElem?_getD, List.getElem?_take_of_lt h]
theorem fits_cut {n m L : Nat} {v : VV} (h : FitsV v m L) : FitsV (cutV n v) m L := by
  refine ⟨by rw [osl_cut, List.length_take]; have := h.1; omega, fun r hr => ?_⟩
  rw [osl_cut] at hr
  exact h.2 r (List.mem_of_mem_take hr)
theorem withRow_len (v : VV) (r : RR) : (withRow v r).length = (osl v).length + 1 := by unfold withRow; rw [List.length_append, List.length_map]; rfl
theorem withRow_get (v : VV) (r : RR) {i : Nat} (h : i < (osl v).length) : (withRow v r).getD i 0 = qAt v i := by
  unfold withRow
  rw [List.getD_eq_getElem?_getD, List.getElem?_append_left (by rw [List.length_map]; exact h), List.getElem?_map, List.getElem?_eq_getElem h]
  unfold qAt; rw [rAt_in h]; rfl
theorem withRow_last (v : VV) (r : RR) : (withRow v r).getD (osl v).length 0 = r.val := by
  unfold withRow
  rw [List.getD_eq_getElem?_getD, List.getElem?_append_right (by rw [List.length_map]; exact Nat.le_refl _), List.length_map, Nat.sub_self]
  rfl
theorem withRow_fits {v : VV} {r : RR} {n L : Nat} (h : FitsV v n L) (hr : Fits r L) (hL : 1 ≤ L) : FitsV (rowV (withRow v r)) (n + 1) L := by
  refine fits_rw (by rw [withRow_len]; have := h.1; omega) (fun q hq => ?_)
  unfold withRow at hq
  rcases List.mem_append.1 hq with hq | hq
  · obtain ⟨x, hx, rfl⟩ := List.mem_map.1 hq
    exact (h.2 x hx).val hL
  · rw [List.mem_singleton.1 hq]; exact hr.val hL
theorem len_rowV (l : List Rat) : (osl (rowV l)).length = l.length := len_rw l
theorem qAt_rowV (l : List Rat) (i : Nat) : qAt (rowV l) i = l.getD i 0 := qAt_rw l i
theorem rAt_rowV (l : List Rat) {i : Nat} (h : i < l.length) : rAt (rowV l) i = rawQ (l.getD i 0) := by
  unfold rAt rowV
  rw [osl_rowO, List.getD_eq_getElem?_getD, List.getElem?_map, List.getD_eq_getElem?_getD (l := l), List.getElem?_eq_getElem h]
  rfl
theorem withP_len (p : PB) (c : VV) (cost : RR) : (osl (withP p c cost).A).length = (osl p.A).length := by
  show (osl (rowO ((withTo p c (osl p.A).length).map rowV))).length = _
  rw [osl_rowO, List.length_map, withTo_len]
theorem withP_row (p : PB) (c : VV) (cost : RR) {i : Nat} (h : i < (osl p.A).length) : mAt (withP p c cost).A i = rowV (withRow (mAt p.A i) (rAt c i)) := by
  unfold mAt
  show (osl (rowO ((withTo p c (osl p.A).length).map rowV))).getD i none = _
  rw [osl_rowO, List.getD_eq_getElem?_getD, List.getElem?_map]
  unfold withTo
  rw [List.getElem?_map, List.getElem?_range h]
  rfl
structure WithIs (p Q : PB) (c : VV) (cost : RR) : Prop where
  len : (osl Q.A).length = (osl p.A).length
  row : ∀ i, i < (osl p.A).length → sameQ (cutV (osl p.C).length (mAt Q.A i)) (mAt p.A i) = true ∧ FitsV (mAt Q.A i) 9 3 ∧ (osl (mAt Q.A i)).length = (osl p.C).length + 1
  b : sameQ Q.B p.B = true ∧ FitsV Q.B 9 3
  clen : (osl Q.C).length = (osl p.C).length + 1
  cfit : FitsV Q.C 9 3
  csame : sameQ (cutV (osl p.C).length Q.C) p.C = true
  last : rAt Q.C (osl p.C).length = rawQ cost.val
  right : rightB Q = true
  col : sameQ (rowO ((colTo Q (osl p.C).length (osl p.A).length).map rawQ)) c = true
theorem with_is {p : PB} {c : VV} {cost : RR} (fp : FitsP p 8 3) (h4 : (osl p.A).length ≤ 4) (fc : FitsV c 8 3) (fo : Fits cost 3) (hr : rightB p = true) (hcl : (osl c).length = (osl p.A).length) : WithIs p (withP p c cost) c cost := by
  obtain ⟨l1, l2, l3, l4⟩ := right_len hr
  have lC := fp.2.2.1
  have hml : ∀ i, i < (osl p.A).length → (osl (mAt p.A i)).length = (osl p.C).length := fun i hi => by rw [mAt_in hi]; exact l4 i hi
  have hrl : ∀ i, i < (osl p.A).length → (osl (mAt (withP p c cost).A i)).length = (osl p.C).length + 1 := fun i hi => by rw [withP_row p c cost hi, len_rowV, withRow_len, hml i hi]
  have hCl : (osl (withP p c cost).C).length = (osl p.C).length + 1 := by show (osl (rowV (withRow p.C cost))).length = _; rw [len_rowV, withRow_len]
  have hBl : (osl (withP p c cost).B).length = (osl p.B).length := by show (osl (rowV _)).length = _; rw [len_rowV, List.length_map]
  refine ⟨withP_len p c cost, fun i hi => ⟨?_, ?_, hrl i hi⟩, ⟨?_, ?_⟩, hCl, ?_, ?_, ?_, ?_, ?_⟩
  · refine same_of (by rw [osl_cut, List.length_take, hrl i hi, hml i hi]; omega) (fun k hk => ?_)
    rw [osl_cut, List.length_take] at hk
    rw [qAt_cut _ (by omega), withP_row p c cost hi, qAt_rowV, withRow_get _ _ (by rw [hml i hi]; omega)]
  · rw [withP_row p c cost hi]; exact withRow_fits (fp.1.at i) (fc.at i) (by decide)
  · refine same_of hBl (fun k hk => ?_)
    show qAt (rowV _) k = _
    rw [qAt_rowV, List.getD_eq_getElem?_getD, List.getElem?_map, List.getElem?_eq_getElem (by rw [hBl] at hk; exact hk)]
    unfold qAt; rw [rAt_in (by rw [hBl] at hk; exact hk)]; rfl
  · exact fits_rw (by rw [List.length_map]; have := fp.2.1.1; omega) (fun q hq => by obtain ⟨x, hx, rfl⟩ := List.mem_map.1 hq; exact (fp.2.1.2 x hx).val (by decide))
  · exact withRow_fits fp.2.2 fo (by decide)
  · refine same_of (by rw [osl_cut, List.length_take, hCl]; omega) (fun k hk => ?_)
    rw [osl_cut, List.length_take, hCl] at hk
    rw [qAt_cut _ (by omega)]
    show qAt (rowV (withRow p.C cost)) k = _
    rw [qAt_rowV, withRow_get _ _ (by omega)]
  · show rAt (rowV (withRow p.C cost)) _ = _
    rw [rAt_rowV _ (by rw [withRow_len]; omega), withRow_last]
  · unfold rightB
    rw [hCl, withP_len, hBl, decide_eq_true (by omega), decide_eq_true l2, decide_eq_true l3]
    have : anyI (rowBad (withP p c cost)) (osl p.A).length = false := anyI_of (fun i hi => by
      unfold rowBad
      rw [hrl i hi, hCl]
      simp)
    rw [this]; rfl
  · refine same_of (by rw [len_rw, colTo_len, hcl]) (fun k hk => ?_)
    rw [len_rw, colTo_len] at hk
    rw [qAt_rw]
    unfold colTo
    rw [List.getD_eq_getElem?_getD, List.getElem?_map, List.getElem?_range hk]
    show qAt (mAt (withP p c cost).A k) (osl p.C).length = _
    rw [withP_row p c cost hk, qAt_rowV, ← hml k hk, withRow_last]
    rfl

end Go.Proofs.Ytdhkdnmefeeclaa
