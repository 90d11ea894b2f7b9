/- Plain facts of sparse rows. -/
import Derived.Test.YtdhkdnmefeeclaaG4
set_option linter.unusedSimpArgs false
set_option linter.unusedVariables false
set_option linter.unnecessarySimpa false
set_option linter.unusedSimpArgs false
set_option linter.unusedVariables false
set_option maxRecDepth 100000
set_option maxHeartbeats 4000000
namespace Go.Proofs.Ytdhkdnmefeeclaa
open Go Go.Am Go.Proofs Go.RowKit Go.Off

theorem dAtI_rowD (a : VV) (k : Int) : dAtI (rowO (rowD a)) k = qAtI a k := by unfold dAtI qAtI; rw [dAt_rowD]
def sdotL (l : List TT) (a : VV) : Rat := l.foldl (fun s t => s + t.v.val * qAtI a t.at') 0
theorem sdotL_snoc (l : List TT) (t : TT) (a : VV) : sdotL (l ++ [t]) a = sdotL l a + t.v.val * qAtI a t.at' := by unfold sdotL; rw [List.foldl_append]; rfl
theorem sdotTo_L (l : TV) (a : VV) (k : Nat) (hk : k ≤ (osl l).length) : sdotTo l a k = sdotL ((osl l).take k) a := by
  induction k with
  | zero => rfl
  | succ k ih =>
    have hlt : k < (osl l).length := by omega
    rw [sdotTo_succ, ih (by omega), List.take_succ_eq_append_getElem hlt, sdotL_snoc, tAt_in hlt]
theorem sdot_sparse (a : VV) (k : Nat) : sdotL (sparseTo a k) a = dotTo a a k := by
  induction k with
  | zero => rfl
  | succ k ih =>
    have hd : dotTo a a (k + 1) = dotTo a a k + qAt a k * qAt a k := dotTo_succ a a k
    by_cases h : qAt a k = 0
    · rw [sparseTo_zero a k h, ih, hd, h, Rat.zero_mul, Rat.add_zero]
    · rw [sparseTo_more a k h, sdotL_snoc, ih, hd, rawQ_val]
      have : qAtI a ((k : Nat) : Int) = qAt a k := by unfold qAtI; rw [if_pos (by omega), Int.toNat_natCast]
      rw [this]
theorem sdotQ_sparse (a : VV) : sdotQ (rowO (sparseQ a)) a = dotV a a := by
  unfold sdotQ
  rw [sdotTo_L _ _ _ (Nat.le_refl _), List.take_length, osl_rowO]
  unfold sparseQ dotV vmin
  rw [sdot_sparse, Nat.min_self]
theorem fits_sparse {a : VV} {n L : Nat} (ha : FitsV a n L) (hL : 1 ≤ L) : FitsT (rowO (sparseQ a)) n L := by
  refine ⟨by rw [osl_rowO]; exact Nat.le_trans (sparseTo_len a _) ha.1, fun t ht => ?_⟩
  rw [osl_rowO] at ht
  unfold sparseQ sparseTo at ht
  obtain ⟨i, _, hi⟩ := List.mem_filterMap.1 ht
  split at hi
  · cases hi
  · simp only [Option.some.injEq] at hi
    subst hi
    exact fits_rawQ ((ha.at i).val hL)

end Go.Proofs.Ytdhkdnmefeeclaa
