/- Plain: the determinant of up to four rows, and the reduced form; Cramer's rule. -/
import Derived.Test.YtdhkdnmefeeclaaB2
set_option linter.unusedSimpArgs false
set_option linter.unusedVariables false
set_option linter.unnecessarySimpa false
set_option linter.unusedVariables false
set_option linter.unusedSimpArgs false
namespace Go.Off

def minorF (f : Nat → Nat → Rat) (k : Nat) : Nat → Nat → Rat := fun i c => f (i + 1) (if c < k then c else c + 1)
def detF : Nat → (Nat → Nat → Rat) → Rat
  | 0, _ => 1
  | n + 1, f => sumR (n + 1) (fun k => if k % 2 = 1 then -(f 0 k * detF n (minorF f k)) else f 0 k * detF n (minorF f k))

theorem detF_congr : ∀ {n : Nat} {f g : Nat → Nat → Rat}, (∀ i c, i < n → c < n → f i c = g i c) → detF n f = detF n g
  | 0, f, g, _ => rfl
  | n + 1, f, g, h => by
    unfold detF
    refine sumR_congr (fun k hk => ?_)
    rw [h 0 k (by omega) hk, detF_congr (n := n) (f := minorF f k) (g := minorF g k) (fun i c hi hc => by
      unfold minorF
      refine h _ _ (by omega) ?_
      split <;> omega)]

theorem det1 (f : Nat → Nat → Rat) : detF 1 f = f 0 0 := by simp [detF, sumR, minorF, Rat.zero_add]
theorem det2 (f : Nat → Nat → Rat) : detF 2 f = f 0 0 * f 1 1 - f 0 1 * f 1 0 := by
  simp [detF, sumR, minorF]; grind
def d3 (a b c d e f g h i : Rat) : Rat := a * (e * i - f * h) - b * (d * i - f * g) + c * (d * h - e * g)
theorem det3 (f : Nat → Nat → Rat) : detF 3 f = d3 (f 0 0) (f 0 1) (f 0 2) (f 1 0) (f 1 1) (f 1 2) (f 2 0) (f 2 1) (f 2 2) := by
  simp [detF, sumR, minorF, d3]; grind
def d4 (a0 a1 a2 a3 b0 b1 b2 b3 c0 c1 c2 c3 e0 e1 e2 e3 : Rat) : Rat :=
  a0 * d3 b1 b2 b3 c1 c2 c3 e1 e2 e3 - a1 * d3 b0 b2 b3 c0 c2 c3 e0 e2 e3 + a2 * d3 b0 b1 b3 c0 c1 c3 e0 e1 e3 - a3 * d3 b0 b1 b2 c0 c1 c2 e0 e1 e2
theorem det4 (f : Nat → Nat → Rat) : detF 4 f = d4 (f 0 0) (f 0 1) (f 0 2) (f 0 3) (f 1 0) (f 1 1) (f 1 2) (f 1 3) (f 2 0) (f 2 1) (f 2 2) (f 2 3) (f 3 0) (f 3 1) (f 3 2) (f 3 3) := by
  simp [detF, sumR, minorF, d4, d3]; grind

def addF (f : Nat → Nat → Rat) (a j : Nat) (q : Rat) : Nat → Nat → Rat := fun i c => if i = j then f j c + f a c * q else f i c
def mulF (f : Nat → Nat → Rat) (a : Nat) (q : Rat) : Nat → Nat → Rat := fun i c => if i = a then f a c * q else f i c
def swF (f : Nat → Nat → Rat) (a b : Nat) : Nat → Nat → Rat := fun i c => if i = b then f a c else if i = a then f b c else f i c

theorem d3_add1 (a b c d e f g h i q : Rat) : d3 (a + d * q) (b + e * q) (c + f * q) d e f g h i = d3 a b c d e f g h i := by unfold d3; grind

theorem det_add {n a j : Nat} (hn : n ≤ 4) (ha : a < n) (hj : j < n) (h : a ≠ j) (f : Nat → Nat → Rat) (q : Rat) : detF n (addF f a j q) = detF n f := by
  match n, hn, ha, hj with
  | 1, _, ha, hj => omega
  | 2, _, ha, hj =>
    have h1 : (a = 0 ∧ j = 1) ∨ (a = 1 ∧ j = 0) := by omega
    rw [det2, det2]
    rcases h1 with ⟨rfl, rfl⟩ | ⟨rfl, rfl⟩ <;> simp [addF] <;> grind
  | 3, _, ha, hj =>
    have h1 : (a = 0 ∧ j = 1) ∨ (a = 0 ∧ j = 2) ∨ (a = 1 ∧ j = 0) ∨ (a = 1 ∧ j = 2) ∨ (a = 2 ∧ j = 0) ∨ (a = 2 ∧ j = 1) := by omega
    rw [det3, det3]
    rcases h1 with ⟨rfl, rfl⟩ | ⟨rfl, rfl⟩ | ⟨rfl, rfl⟩ | ⟨rfl, rfl⟩ | ⟨rfl, rfl⟩ | ⟨rfl, rfl⟩ <;> simp [addF, d3] <;> grind
  | 4, _, ha, hj =>
    have h1 : (a = 0 ∧ j = 1) ∨ (a = 0 ∧ j = 2) ∨ (a = 0 ∧ j = 3) ∨ (a = 1 ∧ j = 0) ∨ (a = 1 ∧ j = 2) ∨ (a = 1 ∧ j = 3) ∨ (a = 2 ∧ j = 0) ∨ (a = 2 ∧ j = 1) ∨ (a = 2 ∧ j = 3) ∨ (a = 3 ∧ j = 0) ∨ (a = 3 ∧ j = 1) ∨ (a = 3 ∧ j = 2) := by omega
    rw [det4, det4]
    rcases h1 with ⟨rfl, rfl⟩ | ⟨rfl, rfl⟩ | ⟨rfl, rfl⟩ | ⟨rfl, rfl⟩ | ⟨rfl, rfl⟩ | ⟨rfl, rfl⟩ | ⟨rfl, rfl⟩ | ⟨rfl, rfl⟩ | ⟨rfl, rfl⟩ | ⟨rfl, rfl⟩ | ⟨rfl, rfl⟩ | ⟨rfl, rfl⟩ <;> simp [addF, d4, d3] <;> grind
theorem det_mul {n a : Nat} (hn : n ≤ 4) (ha : a < n) (f : Nat → Nat → Rat) (q : Rat) : detF n (mulF f a q) = detF n f * q := by
  match n, hn, ha with
  | 1, _, ha =>
    obtain rfl : a = 0 := by omega
    rw [det1, det1]; simp [mulF]
  | 2, _, ha =>
    have h1 : a = 0 ∨ a = 1 := by omega
    rw [det2, det2]
    rcases h1 with rfl | rfl <;> simp [mulF] <;> grind
  | 3, _, ha =>
    have h1 : a = 0 ∨ a = 1 ∨ a = 2 := by omega
    rw [det3, det3]
    rcases h1 with rfl | rfl | rfl <;> simp [mulF, d3] <;> grind
  | 4, _, ha =>
    have h1 : a = 0 ∨ a = 1 ∨ a = 2 ∨ a = 3 := by omega
    rw [det4, det4]
    rcases h1 with rfl | rfl | rfl | rfl <;> simp [mulF, d4, d3] <;> grind
theorem det_sw_lt {n a b : Nat} (hn : n ≤ 4) (hb : b < n) (h : a < b) (f : Nat → Nat → Rat) : detF n (swF f a b) = -(detF n f) := by
  match n, hn, hb with
  | 1, _, hb => omega
  | 2, _, hb =>
    obtain ⟨rfl, rfl⟩ : a = 0 ∧ b = 1 := by omega
    rw [det2, det2]; simp [swF]; grind
  | 3, _, hb =>
    have h1 : (a = 0 ∧ b = 1) ∨ (a = 0 ∧ b = 2) ∨ (a = 1 ∧ b = 2) := by omega
    rw [det3, det3]
    rcases h1 with ⟨rfl, rfl⟩ | ⟨rfl, rfl⟩ | ⟨rfl, rfl⟩ <;> simp [swF, d3] <;> grind
  | 4, _, hb =>
    have h1 : (a = 0 ∧ b = 1) ∨ (a = 0 ∧ b = 2) ∨ (a = 0 ∧ b = 3) ∨ (a = 1 ∧ b = 2) ∨ (a = 1 ∧ b = 3) ∨ (a = 2 ∧ b = 3) := by omega
    rw [det4, det4]
    rcases h1 with ⟨rfl, rfl⟩ | ⟨rfl, rfl⟩ | ⟨rfl, rfl⟩ | ⟨rfl, rfl⟩ | ⟨rfl, rfl⟩ | ⟨rfl, rfl⟩ <;> simp [swF, d4, d3] <;> grind
theorem det_sw {n a b : Nat} (hn : n ≤ 4) (hb : b < n) (h : a ≤ b) (f : Nat → Nat → Rat) : detF n (swF f a b) = 0 ↔ detF n f = 0 := by
  by_cases he : a = b
  · subst he
    rw [detF_congr (g := f) (fun i c _ _ => by unfold swF; split <;> simp_all)]
  · rw [det_sw_lt hn hb (by omega)]
    exact ⟨fun h => by have := Rat.neg_neg (detF n f); rw [h] at this; rw [← this]; rfl, fun h => by rw [h]; rfl⟩

/-- Clearing a column changes no determinant. -/
theorem det_elim {M : QM} {n m a : Nat} (h : Shp M n m) (hn : n ≤ 4) (hm : n ≤ m) (ha : a < n) (k j : Nat) (hj : j ≤ n) : detF n (eQ (elimTo M a k j)) = detF n (eQ M) := by
  induction j with
  | zero => rfl
  | succ j ih =>
    rw [← ih (by omega)]
    obtain ⟨_, e1⟩ := elim_at h ha k j (by omega)
    obtain ⟨_, e2⟩ := elim_at h ha k (j + 1) (by omega)
    by_cases hja : j = a
    · refine detF_congr (fun i c _ _ => ?_)
      rw [e1, e2]
      by_cases hi : i < j ∧ i ≠ a
      · rw [if_pos hi, if_pos (by omega)]
      · rw [if_neg hi, if_neg (by omega)]
    · rw [← det_add hn ha (show j < n by omega) (fun e => hja e.symm) (eQ (elimTo M a k j)) (-(eQ M j k))]
      refine detF_congr (fun i c _ _ => ?_)
      unfold addF
      rw [e2]
      by_cases hij : i = j
      · subst hij
        rw [if_pos ⟨by omega, hja⟩, if_pos rfl, e1, e1, if_neg (by omega), if_neg (by omega)]
      · rw [if_neg hij, e1]
        by_cases hi : i < j ∧ i ≠ a
        · rw [if_pos hi, if_pos (by omega)]
        · rw [if_neg hi, if_neg (by omega)]
theorem det_step {n m : Nat} {M : QM} {P : List Nat} {k : Nat} (h : RInv n m M P k) (hn : n ≤ 4) (hm : n ≤ m) (hk : k < m) : detF n (eQ (stepQ (M, P) k).1) = 0 ↔ detF n (eQ M) = 0 := by
  rcases step_cases h with ⟨he, hz⟩ | ⟨i, hai, hin, hx, he⟩
  · rw [he]
  · rw [he]
    dsimp only
    have ha : P.length < n := by omega
    have h1 := shp_swap h.shp ha hin
    have h2 := shp_one (k := k) h1 ha
    rw [det_elim h2 hn hm ha k n (Nat.le_refl _)]
    have hs : detF n (eQ (swapL M P.length i)) = detF n (swF (eQ M) P.length i) := detF_congr (fun j c _ _ => by rw [eQ_swap h.shp ha hin]; rfl)
    have hx' : eQ (swapL M P.length i) P.length k = eQ M i k := by
      rw [eQ_swap h.shp ha hin]
      split
      · rename_i e; rw [e]
      · rw [if_pos rfl]
    have ho : detF n (eQ (oneL (swapL M P.length i) P.length k)) = detF n (eQ (swapL M P.length i)) * (1 / eQ M i k) := by
      rw [← det_mul hn ha]
      refine detF_congr (fun j c _ _ => ?_)
      rw [eQ_one h1 ha, hx']
      rfl
    rw [ho, hs, ← det_sw hn hin hai (eQ M)]
    have hy : (1 / eQ M i k) ≠ 0 := by
      intro e
      have : eQ M i k * (1 / eQ M i k) = 1 := by rw [Rat.div_def, Rat.one_mul]; exact Rat.mul_inv_cancel _ hx
      rw [e, Rat.mul_zero] at this
      exact absurd this (by decide)
    constructor
    · intro h3
      rcases Rat.mul_eq_zero.1 h3 with h4 | h4
      · exact h4
      · exact (hy h4).elim
    · intro h3; rw [h3, Rat.zero_mul]
theorem det_red {Q : QM} {n m : Nat} (h : Shp Q n m) (hn : n ≤ 4) (hm : n ≤ m) (k : Nat) (hk : k ≤ m) : detF n (eQ (redTo Q k).1) = 0 ↔ detF n (eQ Q) = 0 := by
  induction k with
  | zero => exact Iff.rfl
  | succ k ih => rw [redTo_succ, det_step (red_inv h k (by omega)) hn hm (by omega)]; exact ih (by omega)

theorem detF_one : ∀ n, n ≤ 4 → detF n (fun i c => if i = c then 1 else 0) = 1
  | 0, _ => rfl
  | 1, _ => by decide +kernel
  | 2, _ => by decide +kernel
  | 3, _ => by decide +kernel
  | 4, _ => by decide +kernel
theorem detF_zrow {n a : Nat} {f : Nat → Nat → Rat} (hn : n ≤ 4) (ha : a < n) (h : ∀ c, c < n → f a c = 0) : detF n f = 0 := by
  rw [← detF_congr (f := mulF f a 0) (fun i c hi hc => ?_), det_mul hn ha, Rat.mul_zero]
  unfold mulF
  split
  · rename_i e; rw [e, h c hc]; exact Rat.mul_zero 0
  · rfl
/-- The determinant is 0 just if there are fewer ones than rows. -/
theorem det_rank {Q : QM} {n m : Nat} (h : Shp Q n m) (hn : n ≤ 4) (hm : n ≤ m) : detF n (eQ Q) = 0 ↔ (redTo Q n).2.length ≠ n := by
  rw [← det_red h hn hm n hm]
  have hi := red_inv h n hm
  constructor
  · intro h1 h2
    have h3 : detF n (eQ (redTo Q n).1) = 1 := by
      rw [← detF_one n hn]
      refine detF_congr (fun i c hi' hc => ?_)
      have h4 := hi.one c i (by omega) hi'
      rw [hi.id h2 c (by omega)] at h4
      exact h4
    rw [h3] at h1
    exact absurd h1 (by decide)
  · intro h1
    have h2 := hi.le
    exact detF_zrow hn (show n - 1 < n by omega) (fun c hc => hi.nil (n - 1) c (by omega) (by omega) hc)

/-- A column in place of another one. -/
def colF (f : Nat → Nat → Rat) (k : Nat) (b : Nat → Rat) : Nat → Nat → Rat := fun i c => if c = k then b i else f i c
theorem cramer {n k : Nat} (hn : n ≤ 4) (hk : k < n) (f : Nat → Nat → Rat) (x : Nat → Rat) : detF n (colF f k (fun i => sumR n (fun c => f i c * x c))) = x k * detF n f := by
  match n, hn, hk with
  | 1, _, hk =>
    obtain rfl : k = 0 := by omega
    rw [det1, det1]; simp [colF, sumR]; grind
  | 2, _, hk =>
    have h1 : k = 0 ∨ k = 1 := by omega
    rw [det2, det2]
    rcases h1 with rfl | rfl <;> simp [colF, sumR] <;> grind
  | 3, _, hk =>
    have h1 : k = 0 ∨ k = 1 ∨ k = 2 := by omega
    rw [det3, det3]
    rcases h1 with rfl | rfl | rfl <;> simp [colF, d3, sumR] <;> grind
  | 4, _, hk =>
    have h1 : k = 0 ∨ k = 1 ∨ k = 2 ∨ k = 3 := by omega
    rw [det4, det4]
    rcases h1 with rfl | rfl | rfl | rfl <;> simp [colF, d4, d3, sumR] <;> grind

/-! ### the determinant of lists -/

/-- Without the first row and the column k. -/
def withoutL (D : QM) (k : Nat) : QM := (D.drop 1).map fun r => r.take k ++ r.drop (k + 1)
def detL : Nat → QM → Rat
  | 0, _ => 1
  | n + 1, D => sumR (n + 1) (fun k => if k % 2 = 1 then -(eQ D 0 k * detL n (withoutL D k)) else eQ D 0 k * detL n (withoutL D k))
theorem withoutL_row (D : QM) (k i : Nat) : (withoutL D k).getD i [] = (D.getD (i + 1) []).take k ++ (D.getD (i + 1) []).drop (k + 1) := by
  unfold withoutL
  rw [List.getD_eq_getElem?_getD, List.getD_eq_getElem?_getD, List.getElem?_map, List.getElem?_drop, Nat.add_comm 1 i]
  cases D[i + 1]? with
  | none => simp
  | some r => rfl
theorem shp_without {D : QM} {n m : Nat} (h : Shp D (n + 1) (m + 1)) {k : Nat} (hk : k < m + 1) : Shp (withoutL D k) n m := by
  refine ⟨by unfold withoutL; rw [List.length_map, List.length_drop, h.1]; rfl, fun i hi => ?_⟩
  rw [withoutL_row, List.length_append, List.length_take, List.length_drop, h.2 (i + 1) (by omega)]
  omega
theorem eQ_without {D : QM} {n m : Nat} (h : Shp D (n + 1) (m + 1)) {k i : Nat} (hk : k < m + 1) (hi : i < n) (c : Nat) : eQ (withoutL D k) i c = eQ D (i + 1) (if c < k then c else c + 1) := by
  unfold eQ
  rw [withoutL_row]
  have hl := h.2 (i + 1) (by omega)
  generalize D.getD (i + 1) [] = r at *
  rw [List.getD_eq_getElem?_getD, List.getD_eq_getElem?_getD]
  by_cases hc : c < k
  · rw [if_pos hc, List.getElem?_append_left (by rw [List.length_take]; omega), List.getElem?_take_of_lt hc]
  · rw [if_neg hc, List.getElem?_append_right (by rw [List.length_take]; omega), List.getElem?_drop, List.length_take, Nat.min_eq_left (by omega)]
    rw [show k + 1 + (c - k) = c + 1 by omega]
theorem detL_eq : ∀ {n : Nat} {D : QM}, Shp D n n → detL n D = detF n (eQ D)
  | 0, D, _ => rfl
  | n + 1, D, h => by
    unfold detL detF
    refine sumR_congr (fun k hk => ?_)
    rw [detL_eq (shp_without h hk), detF_congr (f := eQ (withoutL D k)) (g := minorF (eQ D) k) (fun i c hi hc => eQ_without h hk hi c)]

/-! ### a square with a row beside it -/

theorem aug_cases {A : QM} {n : Nat} (h : Shp A n (n + 1)) (hn : n ≤ 4) :
    (detF n (eQ A) ≠ 0 ∧ (redTo A n).2.length = n ∧ redTo A (n + 1) = redTo A n) ∨
    (detF n (eQ A) = 0 ∧ (redTo A n).2.length < n ∧ (redTo A (n + 1) = redTo A n ∨ (redTo A (n + 1)).2 = (redTo A n).2 ++ [n])) := by
  have hr := det_rank h hn (show n ≤ n + 1 by omega)
  have hi := red_inv h n (by omega)
  have hle := hi.le
  by_cases hd : detF n (eQ A) = 0
  · right
    have h1 := hr.1 hd
    refine ⟨hd, by omega, ?_⟩
    rw [redTo_succ]
    rcases step_cases hi with ⟨he, _⟩ | ⟨i, _, _, _, he⟩
    · left; exact he
    · right
      have : stepQ (redTo A n) n = stepQ ((redTo A n).1, (redTo A n).2) n := rfl
      rw [this, he]
  · left
    have h1 : (redTo A n).2.length = n := Classical.byContradiction (fun h2 => hd (hr.2 h2))
    refine ⟨hd, h1, ?_⟩
    rw [redTo_succ]
    rcases step_cases hi with ⟨he, _⟩ | ⟨i, h2, h3, _, _⟩
    · exact he
    · omega
theorem solve_ok {A : QM} {n : Nat} (h : Shp A n (n + 1)) (hn : n ≤ 4) :
    (n ≤ (redTo A (n + 1)).2.length ∧ (n = 0 ∨ (redTo A (n + 1)).2.getD (n - 1) 0 = n - 1)) ↔ detF n (eQ A) ≠ 0 := by
  have hi := red_inv h n (by omega)
  rcases aug_cases h hn with ⟨hd, hl, he⟩ | ⟨hd, hl, he | he⟩
  · refine ⟨fun _ => hd, fun _ => ?_⟩
    rw [he, hl]
    refine ⟨Nat.le_refl _, ?_⟩
    by_cases h0 : n = 0
    · exact .inl h0
    · exact .inr (hi.id hl (n - 1) (by omega))
  · refine ⟨fun h1 => ?_, fun h1 => (h1 hd).elim⟩
    rw [he] at h1; omega
  · refine ⟨fun h1 => ?_, fun h1 => (h1 hd).elim⟩
    rw [he, List.length_append, getD_snoc] at h1
    simp only [List.length_cons, List.length_nil] at h1
    obtain ⟨h2, h3⟩ := h1
    have h4 : n - 1 = (redTo A n).2.length := by omega
    rw [if_neg (by omega), if_pos h4] at h3
    omega
theorem solve_is {A : QM} {n : Nat} (h : Shp A n (n + 1)) (hn : n ≤ 4) (hd : detF n (eQ A) ≠ 0) (j : Nat) (hj : j < n) : eQ A j n = sumR n (fun i => eQ A j i * eQ (redTo A (n + 1)).1 i n) := by
  rcases aug_cases h hn with ⟨_, hl, he⟩ | ⟨h0, _⟩
  · have h1 := red_spans h j n hj (by omega)
    rw [he, hl] at h1
    rw [h1, he]
    refine sumR_congr (fun i hi => ?_)
    rw [(red_inv h n (by omega)).id hl i (by omega), Rat.mul_comm]
  · exact (hd h0).elim
theorem solve_cramer {A : QM} {n : Nat} (h : Shp A n (n + 1)) (hn : n ≤ 4) (hd : detF n (eQ A) ≠ 0) (k : Nat) (hk : k < n) :
    detF n (colF (eQ A) k (fun i => eQ A i n)) = eQ (redTo A (n + 1)).1 k n * detF n (eQ A) := by
  rw [← cramer hn hk (eQ A) (fun i => eQ (redTo A (n + 1)).1 i n)]
  refine detF_congr (fun i c hi hc => ?_)
  unfold colF
  split
  · exact solve_is h hn hd i hi
  · rfl

end Go.Off
