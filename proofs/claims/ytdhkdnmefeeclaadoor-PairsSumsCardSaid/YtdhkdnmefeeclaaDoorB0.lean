/- Plain: sums. -/
set_option linter.unusedSimpArgs false
set_option linter.unusedVariables false
set_option linter.unnecessarySimpa false
set_option linter.unusedVariables false
set_option linter.unusedSimpArgs false
namespace Go.Off

def sumR : Nat → (Nat → Rat) → Rat
  | 0, _ => 0
  | n + 1, f => sumR n f + f n
theorem sumR_congr {n : Nat} {f g : Nat → Rat} (h : ∀ i, i < n → f i = g i) : sumR n f = sumR n g := by
  induction n with
  | zero => rfl
  | succ n ih => unfold sumR; rw [ih (fun i hi => h i (by omega)), h n (by omega)]
theorem sumR_zero (n : Nat) : sumR n (fun _ => 0) = 0 := by
  induction n with
  | zero => rfl
  | succ n ih => unfold sumR; rw [ih]; exact Rat.add_zero 0
theorem sumR_zero' {n : Nat} {f : Nat → Rat} (h : ∀ i, i < n → f i = 0) : sumR n f = 0 := by rw [sumR_congr h, sumR_zero]
theorem sumR_lin (n : Nat) (f g : Nat → Rat) (q : Rat) : sumR n (fun i => f i + g i * q) = sumR n f + sumR n g * q := by
  induction n with
  | zero => simp [sumR, Rat.add_zero, Rat.zero_add, Rat.zero_mul]
  | succ n ih => unfold sumR; rw [ih]; grind
theorem sumR_mul (n : Nat) (f : Nat → Rat) (q : Rat) : sumR n (fun i => f i * q) = sumR n f * q := by
  induction n with
  | zero => simp [sumR, Rat.add_zero, Rat.zero_add, Rat.zero_mul]
  | succ n ih => unfold sumR; rw [ih]; grind
theorem sumR_add (n : Nat) (f g : Nat → Rat) : sumR n (fun i => f i + g i) = sumR n f + sumR n g := by
  induction n with
  | zero => simp [sumR, Rat.add_zero, Rat.zero_add, Rat.zero_mul]
  | succ n ih => unfold sumR; rw [ih]; grind
theorem sumR_single (n j : Nat) (g : Nat → Rat) : sumR n (fun i => if j = i then g i else 0) = if j < n then g j else 0 := by
  induction n with
  | zero => simp [sumR, Rat.add_zero, Rat.zero_add, Rat.zero_mul]
  | succ n ih =>
    unfold sumR
    rw [ih]
    dsimp only
    by_cases h : j = n
    · subst h; rw [if_neg (by omega), if_pos rfl, if_pos (by omega)]; simp [Rat.add_zero, Rat.zero_add, Rat.zero_mul]
    · rw [if_neg h]
      by_cases h2 : j < n
      · rw [if_pos h2, if_pos (by omega)]; simp [Rat.add_zero, Rat.zero_add, Rat.zero_mul]
      · rw [if_neg h2, if_neg (by omega)]; simp [Rat.add_zero, Rat.zero_add, Rat.zero_mul]
theorem sumR_comm (n m : Nat) (f : Nat → Nat → Rat) : sumR n (fun i => sumR m (fun j => f i j)) = sumR m (fun j => sumR n (fun i => f i j)) := by
  induction n with
  | zero => exact (sumR_zero m).symm
  | succ n ih =>
    conv => lhs; unfold sumR
    rw [ih, ← sumR_add]
    rfl

end Go.Off
namespace Go.Off

/-- The first place that a test tells; -1: none. -/
def fstI (p : Nat → Bool) (n : Nat) : Int := match (List.range n).find? p with | some i => (i : Int) | none => -1
def anyI (p : Nat → Bool) (n : Nat) : Bool := (List.range n).any p
theorem anyI_succ (p : Nat → Bool) (n : Nat) : anyI p (n + 1) = (anyI p n || p n) := by unfold anyI; rw [List.range_succ, List.any_append]; simp
theorem anyI_false {p : Nat → Bool} {n i : Nat} (h : anyI p n = false) (hi : i < n) : p i = false := by
  have := List.any_eq_false.1 h i (List.mem_range.2 hi)
  simpa using this
theorem anyI_of {p : Nat → Bool} {n : Nat} (h : ∀ i, i < n → p i = false) : anyI p n = false := by
  unfold anyI
  rw [List.any_eq_false]
  intro i hi
  rw [h i (List.mem_range.1 hi)]
  simp
theorem fstI_none {p : Nat → Bool} {n : Nat} (h : anyI p n = false) : fstI p n = -1 := by
  unfold fstI
  rw [List.find?_eq_none.2 (fun i hi => by rw [anyI_false h (List.mem_range.1 hi)]; simp)]
theorem fstI_some {p : Nat → Bool} {n k : Nat} (hk : k < n) (hz : anyI p k = false) (h : p k = true) : fstI p n = k := by
  unfold fstI
  have : (List.range n).find? p = some k := by
    rw [List.find?_range_eq_some]
    refine ⟨h, List.mem_range.2 hk, fun i hi => ?_⟩
    rw [anyI_false hz hi]
    rfl
  rw [this]
theorem fstI_any (p : Nat → Bool) (n : Nat) : decide (fstI p n ≥ 0) = anyI p n := by
  cases h : anyI p n with
  | false => rw [fstI_none h]; rfl
  | true =>
    unfold anyI at h
    rw [List.any_eq_true] at h
    obtain ⟨i, hi, hp⟩ := h
    unfold fstI
    cases hf : (List.range n).find? p with
    | none =>
      have := List.find?_eq_none.1 hf i hi
      exact (this hp).elim
    | some k => simp

def allK (q : Nat → Bool) (n : Nat) : Bool := (List.range n).all q
theorem allK_succ (q : Nat → Bool) (n : Nat) : allK q (n + 1) = (allK q n && q n) := by unfold allK; rw [List.range_succ, List.all_append]; simp
theorem allK_false {q : Nat → Bool} {k n : Nat} (hk : k < n) (h : q k = false) : allK q n = false := by
  unfold allK
  rw [List.all_eq_false]
  exact ⟨k, List.mem_range.2 hk, by simp [h]⟩
theorem allK_at {q : Nat → Bool} {k n : Nat} (h : allK q n = true) (hk : k < n) : q k = true := List.all_eq_true.1 h k (List.mem_range.2 hk)

end Go.Off
namespace Go.Off

/-- Is one in a set? -/
def bitN (n k : Nat) : Bool := decide (n / 2 ^ k % 2 = 1)
/-- All that are in a set, of the first 12. -/
def itemsL (n : Nat) : List Nat := (List.range 12).filter (bitN n)
def tzN (n : Nat) : Nat := (itemsL n).headD 0
/-- A set without its first. -/
def nxtN (n : Nat) : Nat := n &&& (n - 1)
theorem items_zero : itemsL 0 = [] := by decide
theorem all4096 {P : Nat → Prop} (h : ∀ a, a < 64 → ∀ b, b < 64 → P (a * 64 + b)) : ∀ n, n < 4096 → P n := fun n hn => by
  have := h (n / 64) (by omega) (n % 64) (by omega)
  rwa [show n / 64 * 64 + n % 64 = n by omega] at this
theorem items_step : ∀ n, n < 4096 → n ≠ 0 → itemsL n = tzN n :: itemsL (nxtN n) ∧ nxtN n < n := all4096 (by decide +kernel)
theorem tz_index : ∀ n, n < 4096 → n ≠ 0 → tzN n < 12 ∧ n &&& (18446744073709551616 - n) = 2 ^ tzN n := all4096 (by decide +kernel)
theorem items_lt (n : Nat) : ∀ k ∈ itemsL n, k < 12 := fun _ hk => List.mem_range.1 (List.mem_filter.1 hk).1
theorem items_bit {n k : Nat} : k ∈ itemsL n ↔ k < 12 ∧ bitN n k = true := by unfold itemsL; rw [List.mem_filter, List.mem_range]
theorem bit_lt {n k m : Nat} (hn : n < 2 ^ m) (h : bitN n k = true) : k < m := by
  refine Classical.byContradiction (fun hk => ?_)
  have h1 : 2 ^ m ≤ 2 ^ k := Nat.pow_le_pow_right (by decide) (by omega)
  have h2 : n / 2 ^ k = 0 := Nat.div_eq_of_lt (by omega)
  unfold bitN at h
  rw [h2] at h
  exact absurd (of_decide_eq_true h) (by decide)
/-- Halving again and again. -/
theorem half_pow (n k : Nat) : n / 2 ^ (k + 1) = n / 2 ^ k / 2 := by rw [Nat.pow_succ, Nat.div_div_eq_div_mul]

/-- A list of numbers below a bound, as such. -/
def finK (n : Nat) (l : List Nat) : List (Fin n) := l.filterMap (fun k => if h : k < n then some ⟨k, h⟩ else none)
theorem finK_map {n : Nat} (p : List (Fin n)) : finK n (p.map Fin.val) = p := by
  induction p with
  | nil => rfl
  | cons x p ih =>
    unfold finK at ih ⊢
    rw [List.map_cons, List.filterMap_cons]
    rw [dif_pos x.2, ih]
theorem finK_val {n : Nat} {l : List Nat} (h : ∀ k ∈ l, k < n) : (finK n l).map Fin.val = l := by
  induction l with
  | nil => rfl
  | cons x l ih =>
    have hx := h x (by simp)
    have := ih (fun k hk => h k (by simp [hk]))
    unfold finK at this ⊢
    rw [List.filterMap_cons, dif_pos hx]
    rw [List.map_cons, this]
theorem items_below {n m : Nat} (hn : n < 2 ^ m) : ∀ k ∈ itemsL n, k < m := fun _ hk => bit_lt hn (items_bit.1 hk).2

end Go.Off
