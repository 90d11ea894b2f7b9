/- Matrices as closed data; offcutlaw06.Few. -/
import Derived.Test.YtdhkdnmefeeclaaB2
import Derived.Test.YtdhkdnmefeeclaaV2
set_option linter.unusedSimpArgs false
set_option linter.unusedVariables false
set_option linter.unnecessarySimpa false
set_option linter.unusedSimpArgs false
set_option linter.unusedVariables false
set_option maxRecDepth 100000
set_option maxHeartbeats 4000000
namespace Go.Proofs.Ytdhkdnmefeeclaa
open Go Go.Am Go.Proofs Go.RowKit Go.Off

abbrev MM := Option (List VV)
def fM (v : VV) : List CV := [vr v]
abbrev aM (m : MM) : AV := .one (.c (encSl 1 fM m))
def mAt (m : MM) (i : Nat) : VV := (osl m).getD i none
theorem mAt_in {m : MM} {i : Nat} (h : i < (osl m).length) : mAt m i = (osl m)[i] := by
  unfold mAt; rw [List.getD_eq_getElem?_getD, List.getElem?_eq_getElem h]; rfl
def FitsM (m : MM) (n L : Nat) : Prop := (osl m).length ≤ n ∧ ∀ v ∈ osl m, FitsV v n L

theorem fitsQ_one (L : Nat) (hL : 1 ≤ L) : FitsQ 1 L := by
  refine ⟨?_, ?_⟩
  · rw [show ((1 : Rat).num.natAbs) = 1 from rfl]; exact (by rw [len1]; exact hL)
  · rw [show ((1 : Rat).den) = 1 from rfl]; exact (by rw [len1]; exact hL)

def fewMTo (m : MM) (k : Nat) : Bool := (List.range k).all fun i => fewB (mAt m i)
def fewM (m : MM) : Bool := fewMTo m (min (osl m).length 5) && decide ((osl m).length ≤ 4)
theorem fewMTo_succ (m : MM) (k : Nat) : fewMTo m (k + 1) = (fewMTo m k && fewB (mAt m k)) := by
  unfold fewMTo; rw [List.range_succ, List.all_append]; simp

abbrev c54_k1 : CC := (.seq (.reg [⟨(some 20), none, (.mv (.tmp 0))⟩, ⟨(some 21), none, (.len false (.tmp 20))⟩, ⟨(some 22), none, (.bin .leq (.tmp 21) (.const (.int .i64 (4))))⟩, ⟨(some 2), none, (.mv (.tmp 22))⟩]) .ret)
abbrev c54_b1 : CC := (.seq (.seq (.reg [⟨(some 4), none, (.mv (.tmp 3))⟩, ⟨(some 5), none, (.mv (.tmp 0))⟩, ⟨(some 6), none, (.len false (.tmp 5))⟩, ⟨(some 7), none, (.bin .lss (.tmp 4) (.tmp 6))⟩, ⟨(some 8), none, (.mv (.tmp 7))⟩, ⟨(some 9), (some (8, true)), (.mv (.tmp 3))⟩, ⟨(some 10), (some (8, true)), (.bin .leq (.tmp 9) (.const (.int .i64 (4))))⟩, ⟨(some 11), none, (.pick (.tmp 8) (.tmp 10) (.const (.bool false)))⟩]) (.cond (.tmp 11) .skip (.exit 0))) (.seq (.block 1 (.seq (.reg [⟨(some 14), none, (.mv (.tmp 0))⟩, ⟨(some 15), none, (.mv (.tmp 3))⟩, ⟨(some 16), none, (.iaddr 1 none (.tmp 14) (.tmp 15))⟩, ⟨(some 17), none, (.load 1 false (.tmp 16))⟩, ⟨(some 18), none, (.callf (.func 26) [(.tmp 17)])⟩, ⟨(some 19), none, (.un .not (.tmp 18))⟩]) (.cond (.tmp 19) (.seq (.reg [⟨(some 2), none, (.mv (.const (.bool false)))⟩]) .ret) .skip))) (.reg [⟨(some 12), none, (.mv (.tmp 3))⟩, ⟨(some 13), none, (.bin .add (.tmp 12) (.const (.int .i64 (1))))⟩, ⟨(some 3), none, (.mv (.tmp 13))⟩])))
abbrev c54 : CC := (.seq (.reg [⟨(some 2), none, (.mv (.const (.bool false)))⟩]) (.seq (.seq (.reg [⟨(some 3), none, (.mv (.const (.int .i64 (0))))⟩]) (.block 0 (.loop c54_b1))) c54_k1))
theorem cc54 : ccode Try.prog [] (Try.f54.body.getD .skip) = some c54 := by kernel_rfl
theorem body54 : Try.f54.body = some (Try.f54.body.getD .skip) := rfl

theorem lfew_C (m : MM) : PureC Try.prog 54 [aM m] (.ret (aB (fewM m))) := by
  refine pureC_of (rs := [(RV.tmp 2)]) Try.func54 (fun a w => Try.call54 a w) body54 cc54 (by kernel_rfl) ?_
  rw [Try.ntmps54]
  simp only [frs, Nat.reduceAdd, Nat.reduceSub]
  repeat (first | (with_reducible first | refine Way.imp ?_ | refine blk_o rfl ?_) | ((with_reducible refine WayR.imp (fun K hK => ?_)); simp (disch := first | omega | (simp only [dls]; omega)) only [std, reduceIte, reduceCtorEq, Int.reduceToNat, Nat.reduceAdd, Nat.reduceSub, Nat.reduceMul, Int.reduceAdd, Int.reduceSub, Int.reduceMul, Int.reduceNeg, fU]; subst hK))
  refine awp_loop (fun (zz : Nat) => ⟨(aM m :: .junk :: .junk :: aI zz :: .junk :: .junk :: .junk :: .junk :: .junk :: .junk :: .junk :: .junk :: .junk :: .junk :: .junk :: .junk :: .junk :: .junk :: .junk :: .junk :: .junk :: .junk :: .junk :: []), []⟩) (fun (zz : Nat) => zz ≤ min (osl m).length 5 ∧ fewMTo m zz = true) (fun (zz : Nat) => 5 - zz) (0) ?hI1 (Fgt.head (Nat.le_refl _) [true, false, false, true] ?hT1 ?hH1) ?hB1
  case hT1 => first | (simp (disch := omega) only [hds, liveT, cleanAV, cleanCell, clean1, cleanBlk, reduceIte, Int.reduceSub, Int.reduceAdd, Int.reduceNeg]; done) | rfl
  case hH1 => first | (simp (disch := omega) only [hds, liveT, cleanAV, cleanCell, clean1, cleanBlk, reduceIte, Int.reduceSub, Int.reduceAdd, Int.reduceNeg]; done) | rfl
  · exact ⟨by omega, rfl⟩
  rintro i ⟨hi, hr⟩
  by_cases him : i = min (osl m).length 5
  · have hv : fewM m = decide ((osl m).length ≤ 4) := by unfold fewM; rw [← him, hr, Bool.true_and]
    rw [hv]
    by_cases h5 : (osl m).length ≤ 4
    · have hil : i = (osl m).length := by omega
      rw [decide_eq_true h5]
      repeat (first | (with_reducible first | refine Way.imp ?_ | refine blk_o rfl ?_) | ((with_reducible refine WayR.imp (fun K hK => ?_)); simp (disch := first | omega | (simp only [dls]; omega)) only [std, reduceIte, reduceCtorEq, Int.reduceToNat, Nat.reduceAdd, Nat.reduceSub, Nat.reduceMul, Int.reduceAdd, Int.reduceSub, Int.reduceMul, Int.reduceNeg, fU]; subst hK))
      exact ⟨_, rfl, rfl⟩
    · have hi5 : i = 5 := by omega
      have hi6 : ¬ ((i : Int) ≤ 4) := by omega
      rw [decide_eq_false h5]
      by_cases h6 : (osl m).length = 5
      · have hnl : ¬ i < (osl m).length := by omega
        repeat (first | (with_reducible first | refine Way.imp ?_ | refine blk_o rfl ?_) | ((with_reducible refine WayR.imp (fun K hK => ?_)); simp (disch := first | omega | (simp only [dls]; omega)) only [std, reduceIte, reduceCtorEq, Int.reduceToNat, Nat.reduceAdd, Nat.reduceSub, Nat.reduceMul, Int.reduceAdd, Int.reduceSub, Int.reduceMul, Int.reduceNeg, fU]; subst hK))
        exact ⟨_, rfl, rfl⟩
      · have hil : i < (osl m).length := by omega
        repeat (first | (with_reducible first | refine Way.imp ?_ | refine blk_o rfl ?_) | ((with_reducible refine WayR.imp (fun K hK => ?_)); simp (disch := first | omega | (simp only [dls]; omega)) only [std, reduceIte, reduceCtorEq, Int.reduceToNat, Nat.reduceAdd, Nat.reduceSub, Nat.reduceMul, Int.reduceAdd, Int.reduceSub, Int.reduceMul, Int.reduceNeg, fU]; subst hK))
        exact ⟨_, rfl, rfl⟩
  · have hlt : i < (osl m).length := by omega
    have hi4 : (i : Int) ≤ 4 := by omega
    have hfw := few_C (osl m)[i]
    cases hf : fewB (osl m)[i] with
    | true =>
      rw [hf] at hfw
      repeat (first | (with_reducible first | refine Way.imp ?_ | refine blk_o rfl ?_) | ((with_reducible refine WayR.imp (fun K hK => ?_)); simp (disch := first | omega | (simp only [dls]; omega)) only [std, reduceIte, reduceCtorEq, Int.reduceToNat, Nat.reduceAdd, Nat.reduceSub, Nat.reduceMul, Int.reduceAdd, Int.reduceSub, Int.reduceMul, Int.reduceNeg, fU, fM]; subst hK) | refine zcA (hfw) rfl rfl rfl ?_)
      refine ⟨(i + 1), ?hI2, ?hM2, Fgt.head (Nat.le_refl _) [true, false, false, true] ?hT2 ?hH2⟩
      case hT2 => first | (simp (disch := omega) only [hds, liveT, cleanAV, cleanCell, clean1, cleanBlk, reduceIte, Int.reduceSub, Int.reduceAdd, Int.reduceNeg]; done) | rfl
      case hH2 => first | (simp (disch := omega) only [hds, liveT, cleanAV, cleanCell, clean1, cleanBlk, reduceIte, Int.reduceSub, Int.reduceAdd, Int.reduceNeg]; done) | rfl
      · refine ⟨by omega, ?_⟩
        rw [fewMTo_succ, hr, mAt_in hlt, hf]
        rfl
      · omega
    | false =>
      rw [hf] at hfw
      have hv : fewM m = false := by
        have : fewMTo m (min (osl m).length 5) = false := by
          rw [Bool.eq_false_iff]
          intro h
          have := List.all_eq_true.1 h i (List.mem_range.2 (by omega))
          rw [mAt_in hlt, hf] at this
          cases this
        unfold fewM
        rw [this, Bool.false_and]
      rw [hv]
      repeat (first | (with_reducible first | refine Way.imp ?_ | refine blk_o rfl ?_) | ((with_reducible refine WayR.imp (fun K hK => ?_)); simp (disch := first | omega | (simp only [dls]; omega)) only [std, reduceIte, reduceCtorEq, Int.reduceToNat, Nat.reduceAdd, Nat.reduceSub, Nat.reduceMul, Int.reduceAdd, Int.reduceSub, Int.reduceMul, Int.reduceNeg, fU, fM]; subst hK) | refine zcA (hfw) rfl rfl rfl ?_)
      exact ⟨_, rfl, rfl⟩

theorem FitsV.monoL {a : VV} {n L K : Nat} (h : FitsV a n L) (hk : L ≤ K) : FitsV a n K := ⟨h.1, fun r hr => (h.2 r hr).mono hk⟩
theorem fewM_len {m : MM} (h : fewM m = true) : (osl m).length ≤ 4 := by
  unfold fewM at h
  simp only [Bool.and_eq_true, decide_eq_true_eq] at h
  exact h.2
theorem fewM_fits {m : MM} (h : fewM m = true) : FitsM m 8 3 := by
  have hl := fewM_len h
  refine ⟨by omega, fun v hv => ?_⟩
  unfold fewM at h
  simp only [Bool.and_eq_true, decide_eq_true_eq] at h
  obtain ⟨i, hi, rfl⟩ := List.mem_iff_getElem.1 hv
  have := List.all_eq_true.1 h.1 i (List.mem_range.2 (by omega))
  rw [mAt_in hi] at this
  exact fewB_fits this
theorem FitsM.at {m : MM} {n L : Nat} (h : FitsM m n L) (i : Nat) : FitsV (mAt m i) n L := by
  by_cases hi : i < (osl m).length
  · rw [mAt_in hi]; exact h.2 _ (List.getElem_mem hi)
  · have : mAt m i = none := by unfold mAt; rw [List.getD_eq_getElem?_getD, List.getElem?_eq_none (by omega)]; rfl
    rw [this]
    exact ⟨Nat.zero_le _, fun r hr => absurd hr (by simp [osl])⟩
theorem qAt_rw (l : List Rat) (i : Nat) : qAt (rowO (l.map rawQ)) i = l.getD i 0 := by
  unfold qAt rAt
  rw [osl_rowO]
  simp only [List.getD_eq_getElem?_getD, List.getElem?_map]
  cases l[i]? with
  | none => exact zR_val
  | some q => exact rawQ_val q
theorem len_rw (l : List Rat) : (osl (rowO (l.map rawQ))).length = l.length := by rw [osl_rowO, List.length_map]
theorem fits_rw {l : List Rat} {n L : Nat} (hn : l.length ≤ n) (h : ∀ q ∈ l, FitsQ q L) : FitsV (rowO (l.map rawQ)) n L := by
  refine ⟨by rw [len_rw]; exact hn, fun x hx => ?_⟩
  rw [osl_rowO] at hx
  obtain ⟨q, hq, rfl⟩ := List.mem_map.1 hx
  exact fits_rawQ (h q hq)
theorem fits_dot {a b : VV} {n L : Nat} (ha : FitsV a n L) (hb : FitsV b n L) (hL : 1 ≤ L) : FitsQ (dotV a b) (n * (2 * L + 1) + 1) := by
  have key : ∀ k, FitsQ (dotTo a b k) (k * (2 * L + 1) + 1) := fun k => by
    induction k with
    | zero => rw [Nat.zero_mul]; exact fitsQ_zero _ (by omega)
    | succ k ih =>
      rw [dotTo_succ]
      refine (ih.add1 (((ha.at k).val hL).mul ((hb.at k).val hL))).mono ?_
      rw [Nat.add_mul k 1 (2 * L + 1)]; omega
  refine (key (vmin a b)).mono (Nat.add_le_add_right (Nat.mul_le_mul_right _ ?_) _)
  exact Nat.le_trans (Nat.min_le_left _ _) ha.1
theorem dot_sum (a b : VV) : dotV a b = sumR (vmin a b) (fun i => qAt a i * qAt b i) := by
  unfold dotV
  generalize vmin a b = k
  induction k with
  | zero => rfl
  | succ k ih => rw [dotTo_succ, ih]; rfl
theorem same_of {a b : VV} (h : (osl a).length = (osl b).length) (he : ∀ k, k < (osl a).length → qAt a k = qAt b k) : sameQ a b = true := by
  unfold sameQ
  rw [h, beq_self_eq_true, Bool.true_and]
  unfold sameTo
  rw [List.all_eq_true]
  intro k hk
  rw [List.mem_range] at hk
  rw [he k (by omega)]
  simp

end Go.Proofs.Ytdhkdnmefeeclaa
