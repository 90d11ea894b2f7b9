/- Plain: of a mix that covers, all sets' sizes come to as many items as there are. -/
import Derived.Test.YtdhkdnmefeeclaaDoorBP
set_option linter.unusedSimpArgs false
set_option linter.unusedVariables false
set_option linter.unnecessarySimpa false
set_option linter.unusedVariables false
set_option linter.unusedSimpArgs false
namespace Go.Off

theorem cnt_sum (x : Nat) : ∀ m : Nat, ((((List.range m).filter (bitN x)).length : Nat) : Rat) = sumR m (fun k => if bitN x k then 1 else 0)
  | 0 => rfl
  | m + 1 => by
    rw [List.range_succ, List.filter_append, List.length_append, Rat.natCast_add, cnt_sum x m]
    show _ = sumR m _ + (if bitN x m then 1 else 0)
    congr 1
    cases h : bitN x m <;> simp [h] <;> rfl
theorem upto_sum (n : Nat) : ∀ m : Nat, sumR m (fun k => if k < n then 1 else 0) = ((min m n : Nat) : Rat)
  | 0 => by rw [Nat.zero_min]; rfl
  | m + 1 => by
    show sumR m _ + (if m < n then 1 else 0) = _
    rw [upto_sum n m]
    by_cases h : m < n
    · rw [if_pos h, show min (m + 1) n = min m n + 1 by omega, Rat.natCast_add]; rfl
    · rw [if_neg h, show min (m + 1) n = min m n by omega, Rat.add_zero]
theorem sums_all {N n : Nat} {s : Nat → Nat} {v : Nat → Rat} (hn : n ≤ 12) (hc : ∀ k, k < 12 → togS N s v k k = if k < n then 1 else 0) : sumR N (fun i => v i * (((itemsL (s i)).length : Nat) : Rat)) = ((n : Nat) : Rat) := by
  have e1 : sumR N (fun i => v i * (((itemsL (s i)).length : Nat) : Rat)) = sumR N (fun i => sumR 12 (fun k => if bitN (s i) k && bitN (s i) k then v i else 0)) := sumR_congr (fun i _ => by
    unfold itemsL
    rw [cnt_sum, Rat.mul_comm, ← sumR_mul]
    exact sumR_congr (fun k _ => by cases bitN (s i) k <;> simp [Rat.zero_mul, Rat.one_mul]))
  rw [e1, sumR_comm]
  have e2 : sumR 12 (fun k => sumR N (fun i => if bitN (s i) k && bitN (s i) k then v i else 0)) = sumR 12 (fun k => if k < n then 1 else 0) := sumR_congr (fun k hk => hc k hk)
  rw [e2, upto_sum, show min 12 n = n by omega]

end Go.Off
