/- Plain: how much two items are together, in a mix that covers. -/
import Derived.Test.YtdhkdnmefeeclaaDoorB0
set_option linter.unusedSimpArgs false
set_option linter.unusedVariables false
set_option linter.unnecessarySimpa false
set_option linter.unusedVariables false
set_option linter.unusedSimpArgs false
namespace Go.Off

theorem sumR_nn {n : Nat} {f : Nat → Rat} (h : ∀ i, i < n → 0 ≤ f i) : 0 ≤ sumR n f := by
  induction n with
  | zero => exact Rat.le_refl
  | succ n ih =>
    have a := ih (fun i hi => h i (by omega))
    have b := h n (by omega)
    unfold sumR
    grind
theorem sumR_term {n : Nat} {f : Nat → Rat} (h : ∀ i, i < n → 0 ≤ f i) {j : Nat} (hj : j < n) : f j ≤ sumR n f := by
  induction n with
  | zero => omega
  | succ n ih =>
    unfold sumR
    by_cases hjn : j = n
    · subst hjn
      have := sumR_nn (fun i hi => h i (by omega : i < j + 1))
      have a := sumR_nn (n := j) (f := f) (fun i hi => h i (by omega))
      grind
    · have a := ih (fun i hi => h i (by omega)) (by omega)
      have b := h n (by omega)
      grind
theorem sumR_le {n : Nat} {f g : Nat → Rat} (h : ∀ i, i < n → f i ≤ g i) : sumR n f ≤ sumR n g := by
  induction n with
  | zero => exact Rat.le_refl
  | succ n ih =>
    have a := ih (fun i hi => h i (by omega))
    have b := h n (by omega)
    unfold sumR
    grind
/-- One that is left out is at most the difference. -/
theorem sumR_less {n : Nat} {f g : Nat → Rat} (h : ∀ i, i < n → f i ≤ g i) {j : Nat} (hj : j < n) (h0 : f j = 0) : sumR n f + g j ≤ sumR n g := by
  have a := sumR_term (n := n) (f := fun i => g i + f i * (-1)) (fun i hi => by have := h i hi; grind) hj
  have b := sumR_lin n g f (-1)
  rw [b] at a
  grind

section
variable {N n : Nat} {s : Nat → Nat} {v : Nat → Rat}
def togS (N : Nat) (s : Nat → Nat) (v : Nat → Rat) (a b : Nat) : Rat := sumR N (fun i => if bitN (s i) a && bitN (s i) b then v i else 0)
theorem togS_comm (a b : Nat) : togS N s v a b = togS N s v b a := sumR_congr (fun i _ => by rw [Bool.and_comm])
theorem togS_nn (hv : ∀ i, i < N → 0 ≤ v i) (a b : Nat) : ∀ i, i < N → 0 ≤ (if bitN (s i) a && bitN (s i) b then v i else 0) := fun i hi => by
  split
  · exact hv i hi
  · exact Rat.le_refl
theorem togS_ge (hv : ∀ i, i < N → 0 ≤ v i) {a b j : Nat} (hj : j < N) (ha : bitN (s j) a = true) (hb : bitN (s j) b = true) : v j ≤ togS N s v a b := by
  have := sumR_term (togS_nn (s := s) hv a b) hj
  rw [ha, hb, if_pos (by rfl)] at this
  exact this
theorem togS_le (hv : ∀ i, i < N → 0 ≤ v i) (a b : Nat) : togS N s v a b ≤ togS N s v a a := sumR_le (fun i hi => by
  have := hv i hi
  cases bitN (s i) a <;> cases bitN (s i) b <;> simp [this, Rat.le_refl])
theorem togS_less (hv : ∀ i, i < N → 0 ≤ v i) {a b j : Nat} (hj : j < N) (ha : bitN (s j) a = true) (hb : bitN (s j) b = false) : togS N s v a b + v j ≤ togS N s v a a := by
  have := sumR_less (n := N) (f := fun i => if bitN (s i) a && bitN (s i) b then v i else 0) (g := fun i => if bitN (s i) a && bitN (s i) a then v i else 0) (fun i hi => by
    have := hv i hi
    cases bitN (s i) a <;> cases bitN (s i) b <;> simp [this, Rat.le_refl]) hj (by rw [hb]; simp)
  rw [ha, if_pos (by rfl)] at this
  exact this
theorem whole_no (hw : ∀ i, i < N → v i = 0 ∨ v i = 1) (a b : Nat) : ¬ (0 < togS N s v a b ∧ togS N s v a b < 1) := by
  rintro ⟨h0, h1⟩
  have hv : ∀ i, i < N → 0 ≤ v i := fun i hi => by rcases hw i hi with h | h <;> rw [h] <;> decide +kernel
  by_cases h : ∀ i, i < N → (if bitN (s i) a && bitN (s i) b then v i else 0) = 0
  · have : togS N s v a b = 0 := sumR_zero' h
    rw [this] at h0
    exact absurd h0 (by decide +kernel)
  · obtain ⟨j, hj⟩ := Classical.not_forall.1 h
    obtain ⟨hj, hne⟩ := Classical.not_imp.1 hj
    cases ha : bitN (s j) a with
    | false => rw [ha] at hne; exact hne (by simp)
    | true =>
      cases hb : bitN (s j) b with
      | false => rw [hb] at hne; exact hne (by simp)
      | true =>
        have hge := togS_ge hv hj ha hb
        rw [ha, hb, if_pos (by rfl)] at hne
        rcases hw j hj with h | h
        · exact hne h
        · rw [h] at hge; grind
theorem bits_differ {x y : Nat} (h : x ≠ y) : ∃ p, bitN x p ≠ bitN y p := by
  refine Classical.byContradiction (fun hc => h ?_)
  apply Nat.eq_of_testBit_eq
  intro i
  have : bitN x i = bitN y i := Classical.byContradiction (fun hne => hc ⟨i, hne⟩)
  have e : ∀ z, z.testBit i = bitN z i := fun z => Nat.testBit_eq_decide_div_mod_eq
  rw [e, e, this]
theorem part_split (hv : ∀ i, i < N → 0 ≤ v i) (hs : ∀ i, i < N → 1 ≤ s i ∧ s i < 4096) (hd : ∀ i j, i < N → j < N → i ≠ j → s i ≠ s j) (hc : ∀ k, k < 12 → togS N s v k k = if k < n then 1 else 0)
    {i : Nat} (hi : i < N) (h0 : v i ≠ 0) (h1 : v i ≠ 1) : ∃ a b, a < b ∧ b < n ∧ 0 < togS N s v a b ∧ togS N s v a b < 1 := by
  have hcov : ∀ j p, j < N → 0 < v j → bitN (s j) p = true → p < n ∧ togS N s v p p = 1 := fun j p hj hvj hp => by
    have hp12 : p < 12 := bit_lt (m := 12) (hs j hj).2 hp
    have hge := togS_ge hv hj hp hp
    have e := hc p hp12
    by_cases hpn : p < n
    · rw [if_pos hpn] at e; exact ⟨hpn, e⟩
    · rw [if_neg hpn] at e; grind
  have hpos : 0 < v i := by have := hv i hi; grind
  have hst := (items_step (s i) (hs i hi).2 (by have := (hs i hi).1; omega)).1
  have hk : tzN (s i) ∈ itemsL (s i) := by rw [hst]; exact List.mem_cons_self ..
  have hkb := (items_bit.1 hk).2
  generalize tzN (s i) = k at *
  obtain ⟨hkn, hk1⟩ := hcov i k hi hpos hkb
  have hj : ∃ j, j < N ∧ j ≠ i ∧ bitN (s j) k = true ∧ 0 < v j := by
    refine Classical.byContradiction (fun hno => h1 ?_)
    have e : togS N s v k k = sumR N (fun x => if i = x then v x else 0) := sumR_congr (fun x hx => by
      by_cases hix : i = x
      · subst hix; rw [hkb, if_pos (by rfl), if_pos rfl]
      · rw [if_neg hix]
        cases hb : bitN (s x) k with
        | false => simp
        | true =>
          rw [if_pos (by rfl)]
          refine Classical.byContradiction (fun hne => hno ⟨x, hx, fun e => hix e.symm, hb, ?_⟩)
          have := hv x hx
          grind)
    rw [sumR_single, if_pos hi, hk1] at e
    exact e.symm
  obtain ⟨j, hjN, hji, hjb, hjp⟩ := hj
  have key : ∀ x y p, x < N → y < N → 0 < v x → 0 < v y → bitN (s x) k = true → bitN (s y) k = true → bitN (s x) p = true → bitN (s y) p = false → ∃ a b, a < b ∧ b < n ∧ 0 < togS N s v a b ∧ togS N s v a b < 1 := by
    intro x y p hx hy px py bx by' cx cy
    have t1 := togS_ge hv hx bx cx
    have t2 := togS_less hv hy by' cy
    rw [hk1] at t2
    obtain ⟨hpn, _⟩ := hcov x p hx px cx
    have hpk : p ≠ k := fun e => by rw [e, by'] at cy; cases cy
    rcases Nat.lt_or_ge k p with h | h
    · exact ⟨k, p, h, hpn, by grind, by grind⟩
    · refine ⟨p, k, by omega, hkn, ?_, ?_⟩
      · rw [togS_comm]; grind
      · rw [togS_comm]; grind
  obtain ⟨p, hp⟩ := bits_differ (hd i j hi hjN (fun e => hji e.symm))
  cases e1 : bitN (s i) p with
  | true =>
    cases e2 : bitN (s j) p with
    | true => rw [e1, e2] at hp; exact absurd rfl hp
    | false => exact key i j p hi hjN hpos hjp hkb hjb e1 e2
  | false =>
    cases e2 : bitN (s j) p with
    | true => exact key j i p hjN hi hjp hpos hjb hkb e2 e1
    | false => rw [e1, e2] at hp; exact absurd rfl hp
end

end Go.Off
