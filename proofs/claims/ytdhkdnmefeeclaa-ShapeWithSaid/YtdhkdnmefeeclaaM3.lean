/- What the laws of lin go through: plain facts of matrices. -/
import Derived.Test.YtdhkdnmefeeclaaB2
import Derived.Test.YtdhkdnmefeeclaaM1
import Derived.Test.YtdhkdnmefeeclaaM2
import Derived.Test.YtdhkdnmefeeclaaV2
set_option linter.unusedSimpArgs false
set_option linter.unusedVariables false
set_option linter.unnecessarySimpa false
set_option linter.unusedSimpArgs false
set_option linter.unusedVariables false
set_option maxRecDepth 100000
set_option maxHeartbeats 4000000
namespace Go.Proofs.Ytdhkdnmefeeclaa
open Go Go.Am Go.Proofs Go.RowKit Go.Off

theorem FitsV.monoL {a : VV} {n L K : Nat} (h : FitsV a n L) (hk : L ≤ K) : FitsV a n K := ⟨h.1, fun r hr => (h.2 r hr).mono hk⟩
theorem fewM_len {m : MM} (h : fewM m = true) : (osl m).length ≤ 4 := by
  unfold fewM at h
  simp only [Bool.and_eq_true, decide_eq_true_eq] at h
  exact h.2
theorem fewM_fits {m : MM} (h : fewM m = true) : FitsM m 8 3 := by
  have hl := fewM_len h
  refine ⟨by omega, fun v hv => ?_⟩
  unfold fewM at h
  simp only [Bool.and_eq_true, decide_eq_true_eq] at h
  obtain ⟨i, hi, rfl⟩ := List.mem_iff_getElem.1 hv
  have := List.all_eq_true.1 h.1 i (List.mem_range.2 (by omega))
  rw [mAt_in hi] at this
  exact fewB_fits this
theorem FitsM.at {m : MM} {n L : Nat} (h : FitsM m n L) (i : Nat) : FitsV (mAt m i) n L := by
  by_cases hi : i < (osl m).length
  · rw [mAt_in hi]; exact h.2 _ (List.getElem_mem hi)
  · have : mAt m i = none := by unfold mAt; rw [List.getD_eq_getElem?_getD, List.getElem?_eq_none (by omega)]; rfl
    rw [this]
    exact ⟨Nat.zero_le _, fun r hr => absurd hr (by simp [osl])⟩
theorem cols_le {m : MM} {n L : Nat} (h : FitsM m n L) : cols m ≤ n := (h.at 0).1
theorem cols_zero {m : MM} (h : (osl m).length = 0) : cols m = 0 := by unfold cols mAt; rw [List.length_eq_zero_iff.1 h]; rfl
theorem ok_of {m : MM} {n L : Nat} (h : FitsM m n L) (hn : n ≤ 200) (hr : rectTo m (osl m).length = true) : okM m = true := by
  unfold okM
  rw [hr, decide_eq_true (by have := h.1; omega : (osl m).length ≤ 200), decide_eq_true (by have := cols_le h; omega : cols m ≤ 200)]
  rfl
theorem ok_rect {m : MM} (h : okM m = true) : rectTo m (osl m).length = true := by
  unfold okM at h
  simp only [Bool.and_eq_true] at h
  exact h.1
theorem row_len {m : MM} {i : Nat} (h : rectTo m (osl m).length = true) (hi : i < (osl m).length) : (osl (mAt m i)).length = cols m := rectTo_at h hi
theorem qM_row (m : MM) (i : Nat) : (qM m).getD i [] = (osl (mAt m i)).map fun r => r.val := by
  unfold qM mAt
  rw [List.getD_eq_getElem?_getD, List.getD_eq_getElem?_getD, List.getElem?_map]
  cases (osl m)[i]? with
  | none => rfl
  | some v => rfl
theorem eQ_qM (m : MM) (i k : Nat) : eQ (qM m) i k = qAt (mAt m i) k := by
  unfold eQ
  rw [qM_row]
  unfold qAt rAt
  rw [List.getD_eq_getElem?_getD, List.getD_eq_getElem?_getD, List.getElem?_map]
  cases (osl (mAt m i))[k]? with
  | none => exact zR_val.symm
  | some v => rfl
theorem shp_qM {m : MM} (h : rectTo m (osl m).length = true) : Shp (qM m) (osl m).length (cols m) := by
  refine ⟨by unfold qM; rw [List.length_map], fun i hi => ?_⟩
  rw [qM_row, List.length_map]
  exact row_len h hi
theorem Wf.shp {Q : QM} {n m L : Nat} (h : Wf Q n m L) : Shp Q n m := ⟨h.1, fun i hi => (h.row hi).1⟩

/-! ### matrices of lowest fractions -/

theorem osl_rawM (Q : QM) : osl (rawM Q) = Q.map rawV := rfl
theorem len_rawM (Q : QM) : (osl (rawM Q)).length = Q.length := by rw [osl_rawM, List.length_map]
theorem mAt_rawM {Q : QM} {i : Nat} (h : i < Q.length) : mAt (rawM Q) i = rawV (Q.getD i []) := by
  rw [mAt_in (by rw [len_rawM]; exact h), List.getD_eq_getElem?_getD, List.getElem?_eq_getElem h]
  simp only [osl_rawM, List.getElem_map]
  rfl
theorem map_val_raw (l : List Rat) : (l.map rawQ).map (fun r => r.val) = l := by
  rw [List.map_map]
  conv => rhs; rw [← List.map_id l]
  exact List.map_congr_left (fun q _ => rawQ_val q)
theorem qM_rawM (Q : QM) : qM (rawM Q) = Q := by
  unfold qM
  rw [osl_rawM, List.map_map]
  conv => rhs; rw [← List.map_id Q]
  exact List.map_congr_left (fun r _ => map_val_raw r)
theorem rect_rawM {Q : QM} {n m : Nat} (h : Shp Q n m) : rectTo (rawM Q) (osl (rawM Q)).length = true ∧ (n ≠ 0 → cols (rawM Q) = m) := by
  have hrow : ∀ i, i < n → (osl (mAt (rawM Q) i)).length = m := fun i hi => by
    rw [mAt_rawM (by rw [h.1]; exact hi), osl_rawV, List.length_map]; exact h.2 i hi
  have hc : n ≠ 0 → cols (rawM Q) = m := fun h0 => hrow 0 (by omega)
  refine ⟨?_, hc⟩
  unfold rectTo
  rw [List.all_eq_true]
  intro i hi
  rw [List.mem_range, len_rawM, h.1] at hi
  rw [hrow i hi, hc (by omega)]
  simp
theorem fits_rawM {Q : QM} {n m L k : Nat} (h : Wf Q n m L) (hn : n ≤ k) (hm : m ≤ k) : FitsM (rawM Q) k L := by
  refine ⟨by rw [len_rawM, h.1]; exact hn, fun v hv => ?_⟩
  rw [osl_rawM] at hv
  obtain ⟨r, hr, rfl⟩ := List.mem_map.1 hv
  have := h.2 r hr
  exact fitsV_raw (by omega) this.2
theorem rowO_rawM (Q : QM) (h : Q.length ≠ 0) : rowO (Q.map rawV) = rawM Q := by
  cases Q with
  | nil => exact (h rfl).elim
  | cons r Q => rfl
theorem qAt_rawM {Q : QM} {i k : Nat} (h : i < Q.length) : qAt (mAt (rawM Q) i) k = eQ Q i k := by
  rw [← eQ_qM, qM_rawM]

/-! ### turned -/

theorem shp_turn (m : MM) : Shp (turnQ m) (cols m) (osl m).length := by
  refine ⟨by unfold turnQ; rw [List.length_map, List.length_range], fun i hi => ?_⟩
  unfold turnQ
  rw [List.getD_eq_getElem?_getD, List.getElem?_map, List.getElem?_range hi]
  show (colQ m i (osl m).length).length = _
  unfold colQ
  rw [List.length_map, List.length_range]
theorem eQ_turn (m : MM) {k i : Nat} (hk : k < cols m) (hi : i < (osl m).length) : eQ (turnQ m) k i = qAt (mAt m i) k := by
  unfold eQ turnQ
  rw [List.getD_eq_getElem?_getD (l := List.map _ _), List.getElem?_map, List.getElem?_range hk]
  show (colQ m k (osl m).length).getD i 0 = _
  unfold colQ
  rw [List.getD_eq_getElem?_getD, List.getElem?_map, List.getElem?_range hi]
  rfl
theorem wf_turn {m : MM} {n L : Nat} (h : FitsM m n L) (hL : 1 ≤ L) : Wf (turnQ m) (cols m) (osl m).length L := by
  refine ⟨(shp_turn m).1, fun r hr => ?_⟩
  unfold turnQ at hr
  obtain ⟨k, hk, rfl⟩ := List.mem_map.1 hr
  refine ⟨by unfold colQ; rw [List.length_map, List.length_range], fun q hq => ?_⟩
  unfold colQ at hq
  obtain ⟨i, hi, rfl⟩ := List.mem_map.1 hq
  exact ((h.at i).at k).val hL

/-! ### dots -/

theorem dot_sum (a b : VV) : dotV a b = sumR (vmin a b) (fun i => qAt a i * qAt b i) := by
  unfold dotV
  generalize vmin a b = k
  induction k with
  | zero => rfl
  | succ k ih => rw [dotTo_succ, ih]; rfl
theorem same_of {a b : VV} (h : (osl a).length = (osl b).length) (he : ∀ k, k < (osl a).length → qAt a k = qAt b k) : sameQ a b = true := by
  unfold sameQ
  rw [h, beq_self_eq_true, Bool.true_and]
  unfold sameTo
  rw [List.all_eq_true]
  intro k hk
  rw [List.mem_range] at hk
  rw [he k (by omega)]
  simp

theorem qAt_rw (l : List Rat) (i : Nat) : qAt (rowO (l.map rawQ)) i = l.getD i 0 := by
  unfold qAt rAt
  rw [osl_rowO]
  simp only [List.getD_eq_getElem?_getD, List.getElem?_map]
  cases l[i]? with
  | none => exact zR_val
  | some q => exact rawQ_val q
theorem len_rw (l : List Rat) : (osl (rowO (l.map rawQ))).length = l.length := by rw [osl_rowO, List.length_map]
theorem fits_rw {l : List Rat} {n L : Nat} (hn : l.length ≤ n) (h : ∀ q ∈ l, FitsQ q L) : FitsV (rowO (l.map rawQ)) n L := by
  refine ⟨by rw [len_rw]; exact hn, fun x hx => ?_⟩
  rw [osl_rowO] at hx
  obtain ⟨q, hq, rfl⟩ := List.mem_map.1 hx
  exact fits_rawQ (h q hq)
theorem fits_dot {a b : VV} {n L : Nat} (ha : FitsV a n L) (hb : FitsV b n L) (hL : 1 ≤ L) : FitsQ (dotV a b) (n * (2 * L + 1) + 1) := by
  have key : ∀ k, FitsQ (dotTo a b k) (k * (2 * L + 1) + 1) := fun k => by
    induction k with
    | zero => rw [Nat.zero_mul]; exact fitsQ_zero _ (by omega)
    | succ k ih =>
      rw [dotTo_succ]
      refine (ih.add1 (((ha.at k).val hL).mul ((hb.at k).val hL))).mono ?_
      rw [Nat.add_mul k 1 (2 * L + 1)]; omega
  refine (key (vmin a b)).mono (Nat.add_le_add_right (Nat.mul_le_mul_right _ ?_) _)
  exact Nat.le_trans (Nat.min_le_left _ _) ha.1
theorem len_apply (m : MM) (x : VV) : (applyQ m x).length = (osl m).length := by unfold applyQ; rw [List.length_map]
theorem get_apply (m : MM) (x : VV) {i : Nat} (h : i < (osl m).length) : (applyQ m x).getD i 0 = dotV (mAt m i) x := by
  unfold applyQ
  rw [List.getD_eq_getElem?_getD, List.getElem?_map, List.getElem?_eq_getElem h, mAt_in h]
  rfl
theorem fits_apply {m : MM} {x : VV} {n L : Nat} (hm : FitsM m n L) (hx : FitsV x n L) (hL : 1 ≤ L) : FitsV (rowO ((applyQ m x).map rawQ)) n (n * (2 * L + 1) + 1) := by
  refine fits_rw (by rw [len_apply]; exact hm.1) (fun q hq => ?_)
  unfold applyQ at hq
  obtain ⟨v, hv, rfl⟩ := List.mem_map.1 hq
  exact fits_dot (hm.2 v hv) hx hL
/-- A row applied from the left is the turned matrix applied to it. -/
theorem turn_dot {m : MM} {x y : VV} (hr : rectTo m (osl m).length = true) (hx : (osl x).length = cols m) (hy : (osl y).length = (osl m).length) :
    dotV (rowO ((applyQ m x).map rawQ)) y = dotV (rowO ((applyQ (rawM (turnQ m)) y).map rawQ)) x := by
  have hl := (shp_turn m).1
  rw [dot_sum, dot_sum]
  unfold vmin
  rw [len_rw, len_rw, len_apply, len_apply, len_rawM, hl, hx, hy, Nat.min_self, Nat.min_self]
  have h1 : ∀ i, i < (osl m).length → qAt (rowO ((applyQ m x).map rawQ)) i * qAt y i = sumR (cols m) (fun k => qAt (mAt m i) k * qAt x k * qAt y i) := fun i hi => by
    rw [qAt_rw, get_apply m x hi, dot_sum, sumR_mul]
    unfold vmin
    rw [row_len hr hi, hx, Nat.min_self]
  have h2 : ∀ k, k < cols m → qAt (rowO ((applyQ (rawM (turnQ m)) y).map rawQ)) k * qAt x k = sumR (osl m).length (fun i => qAt (mAt m i) k * qAt x k * qAt y i) := fun k hk => by
    rw [qAt_rw, get_apply _ y (by rw [len_rawM, hl]; exact hk), dot_sum, ← sumR_mul]
    unfold vmin
    rw [mAt_rawM (by rw [hl]; exact hk), osl_rawV, List.length_map, (shp_turn m).2 k hk, hy, Nat.min_self]
    refine sumR_congr (fun i hi => ?_)
    have h3 : qAt (rawV ((turnQ m).getD k [])) i = qAt (mAt m i) k := by
      rw [← mAt_rawM (by rw [hl]; exact hk), qAt_rawM (by rw [hl]; exact hk), eQ_turn m hk hi]
    rw [h3, Rat.mul_assoc, Rat.mul_assoc, Rat.mul_comm (qAt y i)]
  rw [sumR_congr h1, sumR_congr h2, sumR_comm]

end Go.Proofs.Ytdhkdnmefeeclaa
set_option linter.unusedSimpArgs false
set_option linter.unusedVariables false
set_option maxRecDepth 100000
set_option maxHeartbeats 4000000
namespace Go.Proofs.Ytdhkdnmefeeclaa
open Go Go.Am Go.Proofs Go.RowKit Go.Off

theorem rd_mat : Reads Try.prog 65 (fun l => ∃ m : MM, (osl m).length ≤ 9223372036854775807 ∧ l = [encSl 1 fM m]) := reads_mono (reads_slice (k := 1) Try.underlying65 (by kernel_rfl) (by decide) (fun a => rfl) (reads_mono rd_vec (by
  rintro l ⟨a, rfl⟩
  exact ⟨a, trivial, rfl⟩))) (by
  rintro l ⟨s, hs, rfl⟩
  exact ⟨s, by simpa [maxLen] using hs.2, rfl⟩)

end Go.Proofs.Ytdhkdnmefeeclaa
