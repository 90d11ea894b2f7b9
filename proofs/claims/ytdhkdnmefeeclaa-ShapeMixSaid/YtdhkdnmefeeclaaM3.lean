/- What the laws of lin go through: plain facts of matrices. -/
import Derived.Test.YtdhkdnmefeeclaaB2
import Derived.Test.YtdhkdnmefeeclaaM1
import Derived.Test.YtdhkdnmefeeclaaM2
import Derived.Test.YtdhkdnmefeeclaaV2
set_option linter.unusedSimpArgs false
set_option linter.unusedVariables false
set_option linter.unnecessarySimpa false
set_option linter.unusedSimpArgs false
set_option linter.unusedVariables false
set_option maxRecDepth 100000
set_option maxHeartbeats 4000000
namespace Go.Proofs.Ytdhkdnmefeeclaa
open Go Go.Am Go.Proofs Go.RowKit Go.Off

theorem FitsV.monoL {a : VV} {n L K : Nat} (h : FitsV a n L) (hk : L ≤ K) : FitsV a n K := ⟨h.1, fun r hr => (h.2 r hr).mono hk⟩
theorem fewM_len {m : MM} (h : fewM m = true) : (osl m).length ≤ 4 := by
  unfold fewM at h
  simp only [Bool.and_eq_true, decide_eq_true_eq] at h
  exact h.2
theorem fewM_fits {m : MM} (h : fewM m = true) : FitsM m 8 3 := by
  have hl := fewM_len h
  refine ⟨by omega, fun v hv => ?_⟩
  unfold fewM at h
  simp only [Bool.and_eq_true, decide_eq_true_eq] at h
  obtain ⟨i, hi, rfl⟩ := List.mem_iff_getElem.1 hv
  have := List.all_eq_true.1 h.1 i (List.mem_range.2 (by omega))
  rw [mAt_in hi] at this
  exact fewB_fits this
theorem FitsM.at {m : MM} {n L : Nat} (h : FitsM m n L) (i : Nat) : FitsV (mAt m i) n L := by
  by_cases hi : i < (osl m).length
  · rw [mAt_in hi]; exact h.2 _ (List.getElem_mem hi)
  · have : mAt m i = none := by unfold mAt; rw [List.getD_eq_getElem?_getD, List.getElem?_eq_none (by omega)]; rfl
    rw [this]
    exact ⟨Nat.zero_le _, fun r hr => absurd hr (by simp [osl])⟩
theorem cols_le {m : MM} {n L : Nat} (h : FitsM m n L) : cols m ≤ n := (h.at 0).1
theorem cols_zero {m : MM} (h : (osl m).length = 0) : cols m = 0 := by unfold cols mAt; rw [List.length_eq_zero_iff.1 h]; rfl
theorem ok_of {m : MM} {n L : Nat} (h : FitsM m n L) (hn : n ≤ 200) (hr : rectTo m (osl m).length = true) : okM m = true := by
  unfold okM
  rw [hr, decide_eq_true (by have := h.1; omega : (osl m).length ≤ 200), decide_eq_true (by have := cols_le h; omega : cols m ≤ 200)]
  rfl
theorem ok_rect {m : MM} (h : okM m = true) : rectTo m (osl m).length = true := by
  unfold okM at h
  simp only [Bool.and_eq_true] at h
  exact h.1
theorem row_len {m : MM} {i : Nat} (h : rectTo m (osl m).length = true) (hi : i < (osl m).length) : (osl (mAt m i)).length = cols m := rectTo_at h hi
theorem qM_row (m : MM) (i : Nat) : (qM m).getD i [] = (osl (mAt m i)).map fun r => r.val := by
  unfold qM mAt
  rw [List.getD_eq_getElem?_getD, List.getD_eq_getElem?_getD, List.getElem?_map]
  cases (osl m)[i]? with
  | none => rfl
  | some v => rfl
theorem eQ_qM (m : MM) (i k : Nat) : eQ (qM m) i k = qAt (mAt m i) k := by
  unfold eQ
  rw [qM_row]
  unfold qAt rAt
  rw [List.getD_eq_getElem?_getD, List.getD_eq_getElem?_getD, List.getElem?_map]
  cases (osl (mAt m i))[k]? with
  | none => exact zR_val.symm
  | some v => rfl
theorem shp_qM {m : MM} (h : rectTo m (osl m).length = true) : Shp (qM m) (osl m).length (cols m) := by
  refine ⟨by unfold qM; rw [List.length_map], fun i hi => ?_⟩
  rw [qM_row, List.length_map]
  exact row_len h hi
theorem Wf.shp {Q : QM} {n m L : Nat} (h : Wf Q n m L) : Shp Q n m := ⟨h.1, fun i hi => (h.row hi).1⟩

/-! ### matrices of lowest fractions -/

theorem osl_rawM (Q : QM) : osl (rawM Q) = Q.map rawV := rfl
theorem len_rawM (Q : QM) : (osl (rawM Q)).length = Q.length := by rw [osl_rawM, List.length_map]
theorem mAt_rawM {Q : QM} {i : Nat} (h : i < Q.length) : mAt (rawM Q) i = rawV (Q.getD i []) := by
  rw [mAt_in (by rw [len_rawM]; exact h), List.getD_eq_getElem?_getD, List.getElem?_eq_getElem h]
  simp only [osl_rawM, List.getElem_map]
  rfl
theorem map_val_raw (l : List Rat) : (l.map rawQ).map (fun r => r.val) = l := by
  rw [List.map_map]
  conv => rhs; rw [← List.map_id l]
  exact List.map_congr_left (fun q _ => rawQ_val q)
theorem qM_rawM (Q : QM) : qM (rawM Q) = Q := by
  unfold qM
  rw [osl_rawM, List.map_map]
  conv => rhs; rw [← List.map_id Q]
  exact List.map_congr_left (fun r _ => map_val_raw r)
theorem rect_rawM {Q : QM} {n m : Nat} (h : Shp Q n m) : rectTo (rawM Q) (osl (rawM Q)).length = true ∧ (n ≠ 0 → cols (rawM Q) = m) := by
  have hrow : ∀ i, i < n → (osl (mAt (rawM Q) i)).length = m := fun i hi => by
    rw [mAt_rawM (by rw [h.1]; exact hi), osl_rawV, List.length_map]; exact h.2 i hi
  have hc : n ≠ 0 → cols (rawM Q) = m := fun h0 => hrow 0 (by omega)
  refine ⟨?_, hc⟩
  unfold rectTo
  rw [List.all_eq_true]
  intro i hi
  rw [List.mem_range, len_rawM, h.1] at hi
  rw [hrow i hi, hc (by omega)]
  simp
theorem fits_rawM {Q : QM} {n m L k : Nat} (h : Wf Q n m L) (hn : n ≤ k) (hm : m ≤ k) : FitsM (rawM Q) k L := by
  refine ⟨by rw [len_rawM, h.1]; exact hn, fun v hv => ?_⟩
  rw [osl_rawM] at hv
  obtain ⟨r, hr, rfl⟩ := List.mem_map.1 hv
  have := h.2 r hr
  exact fitsV_raw (by omega) this.2
theorem rowO_rawM (Q : QM) (h : Q.length ≠ 0) : rowO (Q.map rawV) = rawM Q := by
  cases Q with
  | nil => exact (h rfl).elim
  | cons r Q => rfl
theorem qAt_rawM {Q : QM} {i k : Nat} (h : i < Q.length) : qAt (mAt (rawM Q) i) k = eQ Q i k := by
  rw [← eQ_qM, qM_rawM]

/-! ### turned -/

theorem shp_turn (m : MM) : Shp (turnQ m) (cols m) (osl m).length := by
  refine ⟨by unfold turnQ; rw [List.length_map, List.length_range], fun i hi => ?_⟩
  unfold turnQ
  rw [List.getD_eq_getElem?_getD, List.getElem?_map, List.getElem?_range hi]
  show (colQ m i (osl m).length).length = _
  unfold colQ
  rw [List.length_map, List.length_range]
theorem eQ_turn (m : MM) {k i : Nat} (hk : k < cols m) (hi : i < (osl m).length) : eQ (turnQ m) k i = qAt (mAt m i) k := by
  unfold eQ turnQ
  rw [List.getD_eq_getElem?_getD (l := List.map _ _), List.getElem?_map, List.getElem?_range hk]
  show (colQ m k (osl m).length).getD i 0 = _
  unfold colQ
  rw [List.getD_eq_getElem?_getD, List.getElem?_map, List.getElem?_range hi]
  rfl
theorem wf_turn {m : MM} {n L : Nat} (h : FitsM m n L) (hL : 1 ≤ L) : Wf (turnQ m) (cols m) (osl m).length L := by
  refine ⟨(shp_turn m).1, fun r hr => ?_⟩
  unfold turnQ at hr
  obtain ⟨k, hk, rfl⟩ := List.mem_map.1 hr
  refine ⟨by unfold colQ; rw [List.length_map, List.length_range], fun q hq => ?_⟩
  unfold colQ at hq
  obtain ⟨i, hi, rfl⟩ := List.mem_map.1 hq
  exact ((h.at i).at k).val hL

/-! ### dots -/

theorem dot_sum (a b : VV) : dotV a b = sumR (vmin a b) (fun i => qAt a i * qAt b i) := by
  unfold dotV
  generalize vmin a b = k
  induction k with
  | zero => rfl
  | succ k ih => rw [dotTo_succ, ih]; rfl
theorem same_of {a b : VV} (h : (osl a).length = (osl b).length) (he : ∀ k, k < (osl a).length → qAt a k = qAt b k) : sameQ a b = true := by
  unfold sameQ
  rw [h, beq_self_eq_true, Bool.true_and]
  unfold sameTo
  rw [List.all_eq_true]
  intro k hk
  rw [List.mem_range] at hk
  rw [he k (by omega)]
  simp

theorem qAt_rw (l : List Rat) (i : Nat) : qAt (rowO (l.map rawQ)) i = l.getD i 0 := by
  unfold qAt rAt
  rw [osl_rowO]
  simp only [List.getD_eq_getElem?_getD, List.getElem?_map]
  cases l[i]? with
  | none => exact zR_val
  | some q => exact rawQ_val q
theorem len_rw (l : List Rat) : (osl (rowO (l.map rawQ))).length = l.length := by rw [osl_rowO, List.length_map]
theorem fits_rw {l : List Rat} {n L : Nat} (hn : l.length ≤ n) (h : ∀ q ∈ l, FitsQ q L) : FitsV (rowO (l.map rawQ)) n L := by
  refine ⟨by rw [len_rw]; exact hn, fun x hx => ?_⟩
  rw [osl_rowO] at hx
  obtain ⟨q, hq, rfl⟩ := List.mem_map.1 hx
  exact fits_rawQ (h q hq)
theorem fits_dot {a b : VV} {n L : Nat} (ha : FitsV a n L) (hb : FitsV b n L) (hL : 1 ≤ L) : FitsQ (dotV a b) (n * (2 * L + 1) + 1) := by
  have key : ∀ k, FitsQ (dotTo a b k) (k * (2 * L + 1) + 1) := fun k => by
    induction k with
    | zero => rw [Nat.zero_mul]; exact fitsQ_zero _ (by omega)
    | succ k ih =>
      rw [dotTo_succ]
      refine (ih.add1 (((ha.at k).val hL).mul ((hb.at k).val hL))).mono ?_
      rw [Nat.add_mul k 1 (2 * L + 1)]; omega
  refine (key (vmin a b)).mono (Nat.add_le_add_right (Nat.mul_le_mul_right _ ?_) _)
  exact Nat.le_trans (Nat.min_le_left _ _) ha.1
theorem len_apply (m : MM) (x : VV) : (applyQ m x).length = (osl m).length := by unfold applyQ; rw [List.length_map]
theorem get_apply (m : MM) (x : VV) {i : Nat} (h : i < (osl m).length) : (applyQ m x).getD i 0 = dotV (mAt m i) x := by
  unfold applyQ
  rw [List.getD_eq_getElem?_getD, List.getElem?_map, List.getElem?_eq_getElem h, mAt_in h]
  rfl
theorem fits_apply {m : MM} {x : VV} {n L : Nat} (hm : FitsM m n L) (hx : FitsV x n L) (hL : 1 ≤ L) : FitsV (rowO ((applyQ m x).map rawQ)) n (n * (2 * L + 1) + 1) := by
  refine fits_rw (by rw [len_apply]; exact hm.1) (fun q hq => ?_)
  unfold applyQ at hq
  obtain ⟨v, hv, rfl⟩ := List.mem_map.1 hq
  exact fits_dot (hm.2 v hv) hx hL
/-- A row applied from the left is the turned matrix applied to it. -/
theorem turn_dot {m : MM} {x y : VV} (hr : rectTo m (osl m).length = true) (hx : (osl x).length = cols m) (hy : (osl y).length = (osl m).length) :
    dotV (rowO ((applyQ m x).map rawQ)) y = dotV (rowO ((applyQ (rawM (turnQ m)) y).map rawQ)) x := by
  have hl := (shp_turn m).1
  rw [dot_sum, dot_sum]
  unfold vmin
  rw [len_rw, len_rw, len_apply, len_apply, len_rawM, hl, hx, hy, Nat.min_self, Nat.min_self]
  have h1 : ∀ i, i < (osl m).length → qAt (rowO ((applyQ m x).map rawQ)) i * qAt y i = sumR (cols m) (fun k => qAt (mAt m i) k * qAt x k * qAt y i) := fun i hi => by
    rw [qAt_rw, get_apply m x hi, dot_sum, sumR_mul]
    unfold vmin
    rw [row_len hr hi, hx, Nat.min_self]
  have h2 : ∀ k, k < cols m → qAt (rowO ((applyQ (rawM (turnQ m)) y).map rawQ)) k * qAt x k = sumR (osl m).length (fun i => qAt (mAt m i) k * qAt x k * qAt y i) := fun k hk => by
    rw [qAt_rw, get_apply _ y (by rw [len_rawM, hl]; exact hk), dot_sum, ← sumR_mul]
    unfold vmin
    rw [mAt_rawM (by rw [hl]; exact hk), osl_rawV, List.length_map, (shp_turn m).2 k hk, hy, Nat.min_self]
    refine sumR_congr (fun i hi => ?_)
    have h3 : qAt (rawV ((turnQ m).getD k [])) i = qAt (mAt m i) k := by
      rw [← mAt_rawM (by rw [hl]; exact hk), qAt_rawM (by rw [hl]; exact hk), eQ_turn m hk hi]
    rw [h3, Rat.mul_assoc, Rat.mul_assoc, Rat.mul_comm (qAt y i)]
  rw [sumR_congr h1, sumR_congr h2, sumR_comm]

end Go.Proofs.Ytdhkdnmefeeclaa
set_option linter.unusedSimpArgs false
set_option linter.unusedVariables false
set_option maxRecDepth 100000
set_option maxHeartbeats 4000000
namespace Go.Proofs.Ytdhkdnmefeeclaa
open Go Go.Am Go.Proofs Go.RowKit Go.Off

theorem litJ2 (x y : Int) : [[Cell.c (.val (.int .i64 x))], [Cell.c (.val (.int .i64 y))]] = encB fI [x, y] := rfl
theorem litM2 (a b : VV) : [[Cell.c (vr a)], [Cell.c (vr b)]] = encB fM [a, b] := rfl
theorem red_awake1 : redTo [[2, 1, 5], [1, 1, 3]] 3 = ([[1, 0, 2], [0, 1, 1]], [0, 1]) := by decide +kernel
theorem red_awake2 : redTo [[1, 2], [2, 4]] 2 = ([[1, 2], [0, 0]], [0]) := by decide +kernel
theorem awake6_aug : augRed (some [some [rawQ 2, rawQ 1], some [rawQ 1, rawQ 1]]) (some [rawQ 5, rawQ 3]) = ([[1, 0, 2], [0, 1, 1]], [0, 1]) := by
  have h1 : qM (augM (some [some [rawQ 2, rawQ 1], some [rawQ 1, rawQ 1]]) (some [rawQ 5, rawQ 3])) = [[2, 1, 5], [1, 1, 3]] := by
    show [[(rawQ 2).val, (rawQ 1).val, (rawQ 5).val], [(rawQ 1).val, (rawQ 1).val, (rawQ 3).val]] = _
    simp only [rawQ_val]
  have h2 : cols (augM (some [some [rawQ 2, rawQ 1], some [rawQ 1, rawQ 1]]) (some [rawQ 5, rawQ 3])) = 3 := rfl
  unfold augRed
  rw [h1, h2, red_awake1]
theorem awake6_solve : solveV (some [some [rawQ 2, rawQ 1], some [rawQ 1, rawQ 1]]) (some [rawQ 5, rawQ 3]) = .tup [aV (some [rawQ 2, rawQ 1]), aI 0] := by
  unfold solveV solveOk solveQ
  rw [awake6_aug]
  rfl
theorem awake6_rank : rankQ (some [some [rawQ 1, rawQ 2], some [rawQ 2, rawQ 4]]) = 1 := by
  have h1 : qM (some [some [rawQ 1, rawQ 2], some [rawQ 2, rawQ 4]]) = [[1, 2], [2, 4]] := by
    show [[(rawQ 1).val, (rawQ 2).val], [(rawQ 2).val, (rawQ 4).val]] = _
    simp only [rawQ_val]
  have h2 : cols (some [some [rawQ 1, rawQ 2], some [rawQ 2, rawQ 4]]) = 2 := rfl
  have h3 : okM (some [some [rawQ 1, rawQ 2], some [rawQ 2, rawQ 4]]) = true := rfl
  unfold rankQ
  rw [h3, h1, h2, red_awake2]
  rfl
theorem fitsV_int2 (a b : Int) (h1 : -9223372036854775808 ≤ a) (h2 : a ≤ 9223372036854775807) (h3 : -9223372036854775808 ≤ b) (h4 : b ≤ 9223372036854775807) : FitsV (some [rawQ (a : Rat), rawQ (b : Rat)]) 2 2 := by
  refine ⟨Nat.le_refl _, fun r hr => ?_⟩
  rw [osl_some] at hr
  rcases List.mem_cons.1 hr with rfl | hr
  · exact fits_rawQ (fits_int a h1 h2)
  · rw [List.mem_singleton.1 hr]; exact fits_rawQ (fits_int b h3 h4)
theorem fitsM_two {a b : VV} {n L : Nat} (ha : FitsV a n L) (hb : FitsV b n L) (h : 2 ≤ n) : FitsM (some [a, b]) n L := by
  refine ⟨h, fun v hv => ?_⟩
  rw [osl_some] at hv
  rcases List.mem_cons.1 hv with rfl | hv
  · exact ha
  · rw [List.mem_singleton.1 hv]; exact hb

abbrev c55 : CC := (.seq (.reg [⟨(some 0), none, (.mv (.const (.bool false)))⟩]) (.seq (.reg [⟨(some 4), none, (.mkrow 3 1 [(.const (.int .i64 (2))), (.const (.int .i64 (1)))])⟩, ⟨(some 5), none, (.callf (.func 57) [(.tmp 4)])⟩, ⟨(some 6), none, (.mkrow 3 1 [(.const (.int .i64 (1))), (.const (.int .i64 (1)))])⟩, ⟨(some 7), none, (.callf (.func 57) [(.tmp 6)])⟩, ⟨(some 8), none, (.mkrow 22 1 [(.tmp 5), (.tmp 7)])⟩, ⟨(some 9), none, (.mkrow 3 1 [(.const (.int .i64 (5))), (.const (.int .i64 (3)))])⟩, ⟨(some 10), none, (.callf (.func 57) [(.tmp 9)])⟩, ⟨(some 11), none, (.callf (.func 63) [(.tmp 8), (.tmp 10)])⟩, ⟨(some 3), none, (.mv (.tmp 11))⟩, ⟨(some 12), none, (.ext (.tmp 3) 0)⟩, ⟨(some 13), none, (.ext (.tmp 3) 1)⟩, ⟨(some 1), none, (.mv (.tmp 12))⟩, ⟨(some 2), none, (.mv (.tmp 13))⟩]) (.seq (.reg [⟨(some 14), none, (.mv (.tmp 2))⟩, ⟨(some 15), none, (.bin .eql (.tmp 14) (.const (.int .i64 (0))))⟩, ⟨(some 16), none, (.mv (.tmp 15))⟩, ⟨(some 17), (some (16, true)), (.mv (.tmp 1))⟩, ⟨(some 18), (some (16, true)), (.mkrow 3 1 [(.const (.int .i64 (2))), (.const (.int .i64 (1)))])⟩, ⟨(some 19), (some (16, true)), (.callf (.func 57) [(.tmp 18)])⟩, ⟨(some 20), (some (16, true)), (.callf (.func 51) [(.tmp 17), (.tmp 19)])⟩, ⟨(some 21), none, (.pick (.tmp 16) (.tmp 20) (.const (.bool false)))⟩, ⟨(some 22), none, (.mv (.tmp 21))⟩, ⟨(some 23), (some (22, true)), (.mkrow 3 1 [(.const (.int .i64 (1))), (.const (.int .i64 (2)))])⟩, ⟨(some 24), (some (22, true)), (.callf (.func 57) [(.tmp 23)])⟩, ⟨(some 25), (some (22, true)), (.mkrow 3 1 [(.const (.int .i64 (2))), (.const (.int .i64 (4)))])⟩, ⟨(some 26), (some (22, true)), (.callf (.func 57) [(.tmp 25)])⟩, ⟨(some 27), (some (22, true)), (.mkrow 22 1 [(.tmp 24), (.tmp 26)])⟩, ⟨(some 28), (some (22, true)), (.callf (.func 58) [(.tmp 27)])⟩, ⟨(some 29), (some (22, true)), (.bin .eql (.tmp 28) (.const (.int .i64 (1))))⟩, ⟨(some 30), none, (.pick (.tmp 22) (.tmp 29) (.const (.bool false)))⟩, ⟨(some 0), none, (.mv (.tmp 30))⟩]) .ret)))
theorem cc55 : ccode Try.prog [] (Try.f55.body.getD .skip) = some c55 := by kernel_rfl
theorem body55 : Try.f55.body = some (Try.f55.body.getD .skip) := rfl

theorem awake6_C : PureC Try.prog 55 [] (.ret (aB true)) := by
  have i1 := ints_R [2, 1] (by decide) (by decide)
  have i2 := ints_R [1, 1] (by decide) (by decide)
  have i3 := ints_R [5, 3] (by decide) (by decide)
  have i4 := ints_R [1, 2] (by decide) (by decide)
  have i5 := ints_R [2, 4] (by decide) (by decide)
  change PureC _ _ _ (.ret (aV (some [rawQ 2, rawQ 1]))) at i1
  change PureC _ _ _ (.ret (aV (some [rawQ 1, rawQ 1]))) at i2
  change PureC _ _ _ (.ret (aV (some [rawQ 5, rawQ 3]))) at i3
  change PureC _ _ _ (.ret (aV (some [rawQ 1, rawQ 2]))) at i4
  change PureC _ _ _ (.ret (aV (some [rawQ 2, rawQ 4]))) at i5
  have f1 : FitsV (some [rawQ 2, rawQ 1]) 2 2 := fitsV_int2 2 1 (by decide) (by decide) (by decide) (by decide)
  have f2 : FitsV (some [rawQ 1, rawQ 1]) 2 2 := fitsV_int2 1 1 (by decide) (by decide) (by decide) (by decide)
  have f3 : FitsV (some [rawQ 5, rawQ 3]) 2 2 := fitsV_int2 5 3 (by decide) (by decide) (by decide) (by decide)
  have f4 : FitsV (some [rawQ 1, rawQ 2]) 2 2 := fitsV_int2 1 2 (by decide) (by decide) (by decide) (by decide)
  have f5 : FitsV (some [rawQ 2, rawQ 4]) 2 2 := fitsV_int2 2 4 (by decide) (by decide) (by decide) (by decide)
  have s1 := solve_full (some [some [rawQ 2, rawQ 1], some [rawQ 1, rawQ 1]]) (some [rawQ 5, rawQ 3]) 2 2 (fitsM_two f1 f2 (by decide)) f3 (by decide) (by decide) (by decide) rfl rfl rfl (by decide) (by decide)
  rw [awake6_solve] at s1
  have v1 := vsame_C (some [rawQ 2, rawQ 1]) (some [rawQ 2, rawQ 1]) 2 2 f1 f1 (by decide) (by decide)
  rw [same_of rfl (fun k _ => rfl)] at v1
  have r1 := rank_C (some [some [rawQ 1, rawQ 2], some [rawQ 2, rawQ 4]]) 2 2 (fitsM_two f4 f5 (by decide)) (by decide) (by decide) (by decide)
  rw [awake6_rank] at r1
  change PureC _ _ _ (.ret (aI 1)) at r1
  clear f1 f2 f3 f4 f5
  generalize rawQ 1 = q1 at *
  generalize rawQ 2 = q2 at *
  generalize rawQ 3 = q3 at *
  generalize rawQ 4 = q4 at *
  generalize rawQ 5 = q5 at *
  refine pureC_of (rs := [(RV.tmp 0)]) Try.func55 (fun a w => Try.call55 a w) body55 cc55 (by kernel_rfl) ?_
  rw [Try.ntmps55]
  simp only [frs, Nat.reduceAdd, Nat.reduceSub]
  repeat (first | (with_reducible first | refine Way.imp ?_ | refine blk_o rfl ?_) | ((with_reducible refine WayR.imp (fun K hK => ?_)); simp (disch := first | omega | (simp only [dls]; omega)) only [std, reduceIte, reduceCtorEq, Int.reduceToNat, Nat.reduceAdd, Nat.reduceSub, Nat.reduceMul, Int.reduceAdd, Int.reduceSub, Int.reduceMul, Int.reduceNeg, fU, litM2, litJ2]; subst hK) | (apply call_ret (i1) rfl; (case hcl => (simp only [evs, St.ev, constAV, evl]; (repeat (first | exact closeAVs_nil | (apply closeAVs_cons; (first | (refine close_own3 rfl (by decide)) | (refine close_ownO rfl (by decide) ?_; assumption) | rfl)))); done)); (case hf => rfl); (case hu => (simp only [evs, St.ev, constAV, evl]; (repeat (first | exact used_nil | (apply used_cons; (first | (apply used_own3; rfl) | rfl)))); done)); (case hh => ((simp only [fzl, Nat.reduceBEq, Nat.reduceAdd, Bool.false_eq_true, if_true, if_false, reduceIte]) <;> rfl))) | (apply call_ret (i2) rfl; (case hcl => (simp only [evs, St.ev, constAV, evl]; (repeat (first | exact closeAVs_nil | (apply closeAVs_cons; (first | (refine close_own3 rfl (by decide)) | (refine close_ownO rfl (by decide) ?_; assumption) | rfl)))); done)); (case hf => rfl); (case hu => (simp only [evs, St.ev, constAV, evl]; (repeat (first | exact used_nil | (apply used_cons; (first | (apply used_own3; rfl) | rfl)))); done)); (case hh => ((simp only [fzl, Nat.reduceBEq, Nat.reduceAdd, Bool.false_eq_true, if_true, if_false, reduceIte]) <;> rfl))) | (apply call_ret (i3) rfl; (case hcl => (simp only [evs, St.ev, constAV, evl]; (repeat (first | exact closeAVs_nil | (apply closeAVs_cons; (first | (refine close_own3 rfl (by decide)) | (refine close_ownO rfl (by decide) ?_; assumption) | rfl)))); done)); (case hf => rfl); (case hu => (simp only [evs, St.ev, constAV, evl]; (repeat (first | exact used_nil | (apply used_cons; (first | (apply used_own3; rfl) | rfl)))); done)); (case hh => ((simp only [fzl, Nat.reduceBEq, Nat.reduceAdd, Bool.false_eq_true, if_true, if_false, reduceIte]) <;> rfl))) | (apply call_ret (s1) rfl; (case hcl => (simp only [evs, St.ev, constAV, evl]; (repeat (first | exact closeAVs_nil | (apply closeAVs_cons; (first | (refine close_own3 rfl (by decide)) | (refine close_ownO rfl (by decide) ?_; assumption) | rfl)))); done)); (case hf => rfl); (case hu => (simp only [evs, St.ev, constAV, evl]; (repeat (first | exact used_nil | (apply used_cons; (first | (apply used_own3; rfl) | rfl)))); done)); (case hh => ((simp only [fzl, Nat.reduceBEq, Nat.reduceAdd, Bool.false_eq_true, if_true, if_false, reduceIte]) <;> rfl))) | (apply call_ret_g (by simp (disch := first | omega | (simp only [dls]; omega)) only [std, reduceIte, reduceCtorEq, Int.reduceToNat, Nat.reduceAdd, Nat.reduceSub, Nat.reduceMul, Int.reduceAdd, Int.reduceSub, Int.reduceMul, Int.reduceNeg, fU, litM2, litJ2]) (i1) rfl; (case hcl => (simp only [evs, St.ev, constAV, evl]; (repeat (first | exact closeAVs_nil | (apply closeAVs_cons; (first | (refine close_own3 rfl (by decide)) | (refine close_ownO rfl (by decide) ?_; assumption) | rfl)))); done)); (case hf => rfl); (case hu => (simp only [evs, St.ev, constAV, evl]; (repeat (first | exact used_nil | (apply used_cons; (first | (apply used_own3; rfl) | rfl)))); done)); (case hh => ((simp only [fzl, Nat.reduceBEq, Nat.reduceAdd, Bool.false_eq_true, if_true, if_false, reduceIte]) <;> rfl))) | (apply call_any_g (v1) rfl; (case hg => simp (disch := first | omega | (simp only [dls]; omega)) only [std, reduceIte, reduceCtorEq, Int.reduceToNat, Nat.reduceAdd, Nat.reduceSub, Nat.reduceMul, Int.reduceAdd, Int.reduceSub, Int.reduceMul, Int.reduceNeg, fU, litM2, litJ2]); (case hcl => (simp only [evs, St.ev, constAV, evl]; (repeat (first | exact closeAVs_nil | (apply closeAVs_cons; (first | (refine close_own3 rfl (by decide)) | (refine close_ownO rfl (by decide) ?_; assumption) | rfl)))); done)); (case hu => rfl)) | (apply call_ret_g (by simp (disch := first | omega | (simp only [dls]; omega)) only [std, reduceIte, reduceCtorEq, Int.reduceToNat, Nat.reduceAdd, Nat.reduceSub, Nat.reduceMul, Int.reduceAdd, Int.reduceSub, Int.reduceMul, Int.reduceNeg, fU, litM2, litJ2]) (i4) rfl; (case hcl => (simp only [evs, St.ev, constAV, evl]; (repeat (first | exact closeAVs_nil | (apply closeAVs_cons; (first | (refine close_own3 rfl (by decide)) | (refine close_ownO rfl (by decide) ?_; assumption) | rfl)))); done)); (case hf => rfl); (case hu => (simp only [evs, St.ev, constAV, evl]; (repeat (first | exact used_nil | (apply used_cons; (first | (apply used_own3; rfl) | rfl)))); done)); (case hh => ((simp only [fzl, Nat.reduceBEq, Nat.reduceAdd, Bool.false_eq_true, if_true, if_false, reduceIte]) <;> rfl))) | (apply call_ret_g (by simp (disch := first | omega | (simp only [dls]; omega)) only [std, reduceIte, reduceCtorEq, Int.reduceToNat, Nat.reduceAdd, Nat.reduceSub, Nat.reduceMul, Int.reduceAdd, Int.reduceSub, Int.reduceMul, Int.reduceNeg, fU, litM2, litJ2]) (i5) rfl; (case hcl => (simp only [evs, St.ev, constAV, evl]; (repeat (first | exact closeAVs_nil | (apply closeAVs_cons; (first | (refine close_own3 rfl (by decide)) | (refine close_ownO rfl (by decide) ?_; assumption) | rfl)))); done)); (case hf => rfl); (case hu => (simp only [evs, St.ev, constAV, evl]; (repeat (first | exact used_nil | (apply used_cons; (first | (apply used_own3; rfl) | rfl)))); done)); (case hh => ((simp only [fzl, Nat.reduceBEq, Nat.reduceAdd, Bool.false_eq_true, if_true, if_false, reduceIte]) <;> rfl))) | (apply call_flat_g (by simp (disch := first | omega | (simp only [dls]; omega)) only [std, reduceIte, reduceCtorEq, Int.reduceToNat, Nat.reduceAdd, Nat.reduceSub, Nat.reduceMul, Int.reduceAdd, Int.reduceSub, Int.reduceMul, Int.reduceNeg, fU, litM2, litJ2]) (r1) rfl; (case hcl => (simp only [evs, St.ev, constAV, evl]; (repeat (first | exact closeAVs_nil | (apply closeAVs_cons; (first | (refine close_own3 rfl (by decide)) | (refine close_ownO rfl (by decide) ?_; assumption) | rfl)))); done)); (case hf => rfl)))
  exact ⟨_, rfl, rfl⟩

end Go.Proofs.Ytdhkdnmefeeclaa
set_option linter.unusedSimpArgs false
set_option linter.unusedVariables false
set_option maxRecDepth 100000
set_option maxHeartbeats 4000000
namespace Go.Proofs.Ytdhkdnmefeeclaa
open Go Go.Am Go.Proofs Go.RowKit Go.Off

theorem rd_mat : Reads Try.prog 65 (fun l => ∃ m : MM, (osl m).length ≤ 9223372036854775807 ∧ l = [encSl 1 fM m]) := reads_mono (reads_slice (k := 1) Try.underlying65 (by kernel_rfl) (by decide) (fun a => rfl) (reads_mono rd_vec (by
  rintro l ⟨a, rfl⟩
  exact ⟨a, trivial, rfl⟩))) (by
  rintro l ⟨s, hs, rfl⟩
  exact ⟨s, by simpa [maxLen] using hs.2, rfl⟩)

end Go.Proofs.Ytdhkdnmefeeclaa
