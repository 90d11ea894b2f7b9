/- Plain: sums. -/
set_option linter.unusedSimpArgs false
set_option linter.unusedVariables false
set_option linter.unnecessarySimpa false
set_option linter.unusedVariables false
set_option linter.unusedSimpArgs false
namespace Go.Off

def sumR : Nat → (Nat → Rat) → Rat
  | 0, _ => 0
  | n + 1, f => sumR n f + f n
theorem sumR_congr {n : Nat} {f g : Nat → Rat} (h : ∀ i, i < n → f i = g i) : sumR n f = sumR n g := by
  induction n with
  | zero => rfl
  | succ n ih => unfold sumR; rw [ih (fun i hi => h i (by omega)), h n (by omega)]
theorem sumR_zero (n : Nat) : sumR n (fun _ => 0) = 0 := by
  induction n with
  | zero => rfl
  | succ n ih => unfold sumR; rw [ih]; exact Rat.add_zero 0
theorem sumR_zero' {n : Nat} {f : Nat → Rat} (h : ∀ i, i < n → f i = 0) : sumR n f = 0 := by rw [sumR_congr h, sumR_zero]
theorem sumR_lin (n : Nat) (f g : Nat → Rat) (q : Rat) : sumR n (fun i => f i + g i * q) = sumR n f + sumR n g * q := by
  induction n with
  | zero => simp [sumR, Rat.add_zero, Rat.zero_add, Rat.zero_mul]
  | succ n ih => unfold sumR; rw [ih]; grind
theorem sumR_mul (n : Nat) (f : Nat → Rat) (q : Rat) : sumR n (fun i => f i * q) = sumR n f * q := by
  induction n with
  | zero => simp [sumR, Rat.add_zero, Rat.zero_add, Rat.zero_mul]
  | succ n ih => unfold sumR; rw [ih]; grind
theorem sumR_add (n : Nat) (f g : Nat → Rat) : sumR n (fun i => f i + g i) = sumR n f + sumR n g := by
  induction n with
  | zero => simp [sumR, Rat.add_zero, Rat.zero_add, Rat.zero_mul]
  | succ n ih => unfold sumR; rw [ih]; grind
theorem sumR_single (n j : Nat) (g : Nat → Rat) : sumR n (fun i => if j = i then g i else 0) = if j < n then g j else 0 := by
  induction n with
  | zero => simp [sumR, Rat.add_zero, Rat.zero_add, Rat.zero_mul]
  | succ n ih =>
    unfold sumR
    rw [ih]
    dsimp only
    by_cases h : j = n
    · subst h; rw [if_neg (by omega), if_pos rfl, if_pos (by omega)]; simp [Rat.add_zero, Rat.zero_add, Rat.zero_mul]
    · rw [if_neg h]
      by_cases h2 : j < n
      · rw [if_pos h2, if_pos (by omega)]; simp [Rat.add_zero, Rat.zero_add, Rat.zero_mul]
      · rw [if_neg h2, if_neg (by omega)]; simp [Rat.add_zero, Rat.zero_add, Rat.zero_mul]
theorem sumR_comm (n m : Nat) (f : Nat → Nat → Rat) : sumR n (fun i => sumR m (fun j => f i j)) = sumR m (fun j => sumR n (fun i => f i j)) := by
  induction n with
  | zero => exact (sumR_zero m).symm
  | succ n ih =>
    conv => lhs; unfold sumR
    rw [ih, ← sumR_add]
    rfl

end Go.Off
namespace Go.Off

/-- The first place that a test tells; -1: none. -/
def fstI (p : Nat → Bool) (n : Nat) : Int := match (List.range n).find? p with | some i => (i : Int) | none => -1
def anyI (p : Nat → Bool) (n : Nat) : Bool := (List.range n).any p
theorem anyI_succ (p : Nat → Bool) (n : Nat) : anyI p (n + 1) = (anyI p n || p n) := by unfold anyI; rw [List.range_succ, List.any_append]; simp
theorem anyI_false {p : Nat → Bool} {n i : Nat} (h : anyI p n = false) (hi : i < n) : p i = false := by
  have := List.any_eq_false.1 h i (List.mem_range.2 hi)
  simpa using this
theorem anyI_of {p : Nat → Bool} {n : Nat} (h : ∀ i, i < n → p i = false) : anyI p n = false := by
  unfold anyI
  rw [List.any_eq_false]
  intro i hi
  rw [h i (List.mem_range.1 hi)]
  simp
theorem fstI_none {p : Nat → Bool} {n : Nat} (h : anyI p n = false) : fstI p n = -1 := by
  unfold fstI
  rw [List.find?_eq_none.2 (fun i hi => by rw [anyI_false h (List.mem_range.1 hi)]; simp)]
theorem fstI_some {p : Nat → Bool} {n k : Nat} (hk : k < n) (hz : anyI p k = false) (h : p k = true) : fstI p n = k := by
  unfold fstI
  have : (List.range n).find? p = some k := by
    rw [List.find?_range_eq_some]
    refine ⟨h, List.mem_range.2 hk, fun i hi => ?_⟩
    rw [anyI_false hz hi]
    rfl
  rw [this]
theorem fstI_any (p : Nat → Bool) (n : Nat) : decide (fstI p n ≥ 0) = anyI p n := by
  cases h : anyI p n with
  | false => rw [fstI_none h]; rfl
  | true =>
    unfold anyI at h
    rw [List.any_eq_true] at h
    obtain ⟨i, hi, hp⟩ := h
    unfold fstI
    cases hf : (List.range n).find? p with
    | none =>
      have := List.find?_eq_none.1 hf i hi
      exact (this hp).elim
    | some k => simp

end Go.Off
