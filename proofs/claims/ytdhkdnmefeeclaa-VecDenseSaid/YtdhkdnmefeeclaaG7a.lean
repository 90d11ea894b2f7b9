/- Plain facts of sparse rows and their rows. -/
import Derived.Test.YtdhkdnmefeeclaaG4
set_option linter.unusedSimpArgs false
set_option linter.unusedVariables false
set_option linter.unnecessarySimpa false
set_option linter.unusedSimpArgs false
set_option linter.unusedVariables false
set_option maxRecDepth 100000
set_option maxHeartbeats 4000000
namespace Go.Proofs.Ytdhkdnmefeeclaa
open Go Go.Am Go.Proofs Go.RowKit Go.Off

def fitsTo (l : TV) (long : Int) (k : Nat) : Bool := (decide (0 ≤ long) && decide (long ≤ 65536)) && (List.range k).all fun i => decide ((tAt l i).at' < long)
theorem fitsTo_succ (l : TV) (long : Int) (k : Nat) : fitsTo l long (k + 1) = (fitsTo l long k && decide ((tAt l k).at' < long)) := by
  unfold fitsTo; rw [List.range_succ, List.all_append]; simp [Bool.and_assoc]
theorem denseOk_eq (l : TV) (long : Int) : denseOk l long = (rightQ l && fitsTo l long (osl l).length) := by
  unfold denseOk fitsTo
  cases hr : rightQ l with
  | false => rfl
  | true =>
    rw [Bool.true_and, Bool.true_and, Bool.and_assoc]
    congr 2
    by_cases h0 : (osl l).length = 0
    · rw [h0]; simp
    · by_cases h1 : (tAt l ((osl l).length - 1)).at' < long
      · rw [decide_eq_true h1, Bool.or_true]
        symm
        rw [List.all_eq_true]
        intro i hi
        have hi' := List.mem_range.1 hi
        refine decide_eq_true ?_
        by_cases he : i = (osl l).length - 1
        · rw [he]; exact h1
        · have := right_lt hr (i := i) (j := (osl l).length - 1) (by omega) (by omega); omega
      · rw [decide_eq_false h0, decide_eq_false h1, Bool.or_false]
        symm
        rw [List.all_eq_false]
        exact ⟨(osl l).length - 1, List.mem_range.2 (by omega), by simpa using h1⟩
theorem denseTo_get {l : TV} (hr : rightQ l = true) (m : Nat) : ∀ (k : Nat), k ≤ (osl l).length → ∀ i, i < k → (tAt l i).at'.toNat < m → (denseTo l m k)[(tAt l i).at'.toNat]? = some (rawQ (tAt l i).v.val)
  | 0, _, i, hi, _ => by omega
  | k + 1, hk, i, hi, hm => by
    rw [denseTo_succ]
    by_cases he : i = k
    · subst he
      rw [List.getElem?_set_self (by rw [denseTo_len]; exact hm)]
    · have h1 := right_lt hr (i := i) (j := k) (by omega) (by omega)
      have h2 := right_nn hr (i := i) (by omega)
      rw [List.getElem?_set_ne (by omega)]
      exact denseTo_get hr m k (by omega) i (by omega) hm
theorem decZ_zero_beq (q : Rat) : (decZ q.num == [48]) = decide (q = 0) := by
  by_cases h : q = 0
  · subst h; rfl
  · have h1 : ¬ decZ q.num = [48] := fun e => h (by
      have e2 : decZ q.num = decZ 0 := by rw [e]; rfl
      have := decZ_inj e2
      exact Rat.num_eq_zero.1 this)
    rw [decide_eq_false h]
    exact beq_eq_false_iff_ne.2 h1
theorem okT_at {l : TV} {i : Nat} (hlt : i < (osl l).length) : okT l i = (decide (0 ≤ (osl l)[i].at') && (decide (i = 0) || decide ((tAt l (i - 1)).at' < (osl l)[i].at')) && !(decZ (osl l)[i].v.val.num == [48])) := by
  unfold okT; rw [tAt_in hlt, decZ_zero_beq]

end Go.Proofs.Ytdhkdnmefeeclaa
