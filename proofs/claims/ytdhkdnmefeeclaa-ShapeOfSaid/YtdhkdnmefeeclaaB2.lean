/- Plain: the reduced form of a matrix, step by step, and its shape. -/
set_option linter.unusedSimpArgs false
set_option linter.unusedVariables false
set_option linter.unnecessarySimpa false
set_option linter.unusedVariables false
set_option linter.unusedSimpArgs false
namespace Go.Off

abbrev QM := List (List Rat)
def eQ (Q : QM) (i k : Nat) : Rat := (Q.getD i []).getD k 0
def scaleL (a : List Rat) (q : Rat) : List Rat := a.map (· * q)
def addL (a b : List Rat) : List Rat := List.zipWith (· + ·) a b
def pivFrom (Q : QM) (k : Nat) : Nat → Nat → Nat
  | 0, i => i
  | f + 1, i => if eQ Q i k = 0 then pivFrom Q k f (i + 1) else i
def pivQ (Q : QM) (k a : Nat) : Nat := pivFrom Q k (Q.length - a) a
def swapL (Q : QM) (a i : Nat) : QM := (Q.set a (Q.getD i [])).set i (Q.getD a [])
def oneL (Q : QM) (a k : Nat) : QM := Q.set a (scaleL (Q.getD a []) (1 / eQ Q a k))
def elim1 (a k : Nat) (M : QM) (j : Nat) : QM := if j = a ∨ eQ M j k = 0 then M else M.set j (addL (M.getD j []) (scaleL (M.getD a []) (-(eQ M j k))))
def elimTo (Q : QM) (a k j : Nat) : QM := (List.range j).foldl (elim1 a k) Q
def stepQ (S : QM × List Nat) (k : Nat) : QM × List Nat :=
  if pivQ S.1 k S.2.length = S.1.length then S
  else (elimTo (oneL (swapL S.1 S.2.length (pivQ S.1 k S.2.length)) S.2.length k) S.2.length k S.1.length, S.2 ++ [k])
def redTo (Q : QM) (k : Nat) : QM × List Nat := (List.range k).foldl stepQ (Q, [])

theorem elimTo_succ (Q : QM) (a k j : Nat) : elimTo Q a k (j + 1) = elim1 a k (elimTo Q a k j) j := by
  unfold elimTo; rw [List.range_succ, List.foldl_append]; rfl
theorem redTo_succ (Q : QM) (k : Nat) : redTo Q (k + 1) = stepQ (redTo Q k) k := by
  unfold redTo; rw [List.range_succ, List.foldl_append]; rfl
theorem pivFrom_ge (Q : QM) (k : Nat) : ∀ (f i : Nat), i ≤ pivFrom Q k f i ∧ pivFrom Q k f i ≤ i + f
  | 0, i => ⟨Nat.le_refl _, Nat.le_refl _⟩
  | f + 1, i => by
    unfold pivFrom
    split
    · have := pivFrom_ge Q k f (i + 1); omega
    · omega
theorem pivQ_ge {Q : QM} {k a : Nat} (h : a ≤ Q.length) : a ≤ pivQ Q k a ∧ pivQ Q k a ≤ Q.length := by
  have := pivFrom_ge Q k (Q.length - a) a
  unfold pivQ; omega
theorem rowSet_ne {Q : QM} {i j : Nat} {r : List Rat} (h : i ≠ j) : (Q.set i r).getD j [] = Q.getD j [] := by
  rw [List.getD_eq_getElem?_getD, List.getD_eq_getElem?_getD, List.getElem?_set_ne h]
theorem rowSet_self {Q : QM} {i : Nat} {r : List Rat} (h : i < Q.length) : (Q.set i r).getD i [] = r := by
  rw [List.getD_eq_getElem?_getD, List.getElem?_set_self h]; rfl
theorem pivFrom_nz (Q : QM) (k : Nat) : ∀ (f i : Nat), pivFrom Q k f i < i + f → eQ Q (pivFrom Q k f i) k ≠ 0
  | 0, i, h => by unfold pivFrom at h; omega
  | f + 1, i, h => by
    unfold pivFrom at h ⊢
    split
    · rename_i h0
      rw [if_pos h0] at h
      exact pivFrom_nz Q k f (i + 1) (by omega)
    · rename_i h0; exact h0
theorem pivQ_nz {Q : QM} {k a : Nat} (ha : a ≤ Q.length) (h : pivQ Q k a < Q.length) : eQ Q (pivQ Q k a) k ≠ 0 := by
  unfold pivQ at h ⊢; exact pivFrom_nz Q k _ a (by omega)
theorem pivFrom_z (Q : QM) (k : Nat) : ∀ (f i j : Nat), i ≤ j → j < pivFrom Q k f i → eQ Q j k = 0
  | 0, i, j, h, hj => by unfold pivFrom at hj; omega
  | f + 1, i, j, h, hj => by
    unfold pivFrom at hj
    split at hj
    · rename_i h0
      by_cases he : j = i
      · rw [he]; exact h0
      · exact pivFrom_z Q k f (i + 1) j (by omega) hj
    · omega
theorem pivFrom_all (Q : QM) (k : Nat) : ∀ (f i : Nat), (∀ j, i ≤ j → j < i + f → eQ Q j k = 0) → pivFrom Q k f i = i + f
  | 0, i, _ => rfl
  | f + 1, i, h => by
    unfold pivFrom
    rw [if_pos (h i (Nat.le_refl _) (by omega)), pivFrom_all Q k f (i + 1) (fun j h1 h2 => h j (by omega) (by omega))]
    omega

/-! ### entries -/

def Shp (M : QM) (n m : Nat) : Prop := M.length = n ∧ ∀ i, i < n → (M.getD i []).length = m
theorem scaleL_get (a : List Rat) (q : Rat) (c : Nat) : (scaleL a q).getD c 0 = a.getD c 0 * q := by
  unfold scaleL
  rw [List.getD_eq_getElem?_getD, List.getD_eq_getElem?_getD, List.getElem?_map]
  cases a[c]? with
  | none => simp
  | some x => rfl
theorem scaleL_len (a : List Rat) (q : Rat) : (scaleL a q).length = a.length := by unfold scaleL; rw [List.length_map]
theorem addL_len (a b : List Rat) : (addL a b).length = min a.length b.length := by unfold addL; rw [List.length_zipWith]
theorem addL_get {a b : List Rat} (h : a.length = b.length) (c : Nat) : (addL a b).getD c 0 = a.getD c 0 + b.getD c 0 := by
  unfold addL
  rw [List.getD_eq_getElem?_getD, List.getD_eq_getElem?_getD, List.getD_eq_getElem?_getD, List.getElem?_zipWith]
  by_cases hc : c < a.length
  · rw [List.getElem?_eq_getElem hc, List.getElem?_eq_getElem (by omega)]; rfl
  · rw [List.getElem?_eq_none (by omega), List.getElem?_eq_none (by omega)]; exact (Rat.add_zero 0).symm
theorem eQ_set {M : QM} {i : Nat} (r : List Rat) (hi : i < M.length) (j c : Nat) : eQ (M.set i r) j c = if j = i then r.getD c 0 else eQ M j c := by
  unfold eQ
  split
  · rename_i h; subst h; rw [rowSet_self hi]
  · rename_i h; rw [rowSet_ne (fun e => h e.symm)]
theorem Shp.set {M : QM} {n m i : Nat} {r : List Rat} (h : Shp M n m) (hr : r.length = m) : Shp (M.set i r) n m := by
  refine ⟨by rw [List.length_set]; exact h.1, fun j hj => ?_⟩
  by_cases he : j = i
  · subst he; rw [rowSet_self (by rw [h.1]; exact hj)]; exact hr
  · rw [rowSet_ne (fun e => he e.symm)]; exact h.2 j hj
theorem shp_swap {M : QM} {n m a i : Nat} (h : Shp M n m) (ha : a < n) (hi : i < n) : Shp (swapL M a i) n m := (h.set (h.2 i hi)).set (h.2 a ha)
theorem eQ_swap {M : QM} {n m a i : Nat} (h : Shp M n m) (ha : a < n) (hi : i < n) (j c : Nat) : eQ (swapL M a i) j c = if j = i then eQ M a c else if j = a then eQ M i c else eQ M j c := by
  unfold swapL
  rw [eQ_set _ (by rw [List.length_set, h.1]; exact hi), eQ_set _ (by rw [h.1]; exact ha)]
  rfl
theorem shp_one {M : QM} {n m a k : Nat} (h : Shp M n m) (ha : a < n) : Shp (oneL M a k) n m := h.set (by rw [scaleL_len]; exact h.2 a ha)
theorem eQ_one {M : QM} {n m a : Nat} (h : Shp M n m) (ha : a < n) (k j c : Nat) : eQ (oneL M a k) j c = if j = a then eQ M a c * (1 / eQ M a k) else eQ M j c := by
  unfold oneL
  rw [eQ_set _ (by rw [h.1]; exact ha), scaleL_get]
  rfl
theorem elim_at {M : QM} {n m a : Nat} (h : Shp M n m) (ha : a < n) (k j : Nat) (hj : j ≤ n) :
    Shp (elimTo M a k j) n m ∧ ∀ i c, eQ (elimTo M a k j) i c = if i < j ∧ i ≠ a then eQ M i c + eQ M a c * (-(eQ M i k)) else eQ M i c := by
  induction j with
  | zero => exact ⟨h, fun i c => by rw [if_neg (by omega)]; rfl⟩
  | succ j ih =>
    obtain ⟨h1, h2⟩ := ih (by omega)
    rw [elimTo_succ]
    have hja : ∀ c, eQ (elimTo M a k j) j c = eQ M j c := fun c => by rw [h2, if_neg (by omega)]
    have haa : ∀ c, eQ (elimTo M a k j) a c = eQ M a c := fun c => by rw [h2, if_neg (by omega)]
    unfold elim1
    rw [hja]
    split
    · rename_i hc
      refine ⟨h1, fun i c => ?_⟩
      rw [h2]
      by_cases hi : i < j ∧ i ≠ a
      · rw [if_pos hi, if_pos ⟨by omega, hi.2⟩]
      · rw [if_neg hi]
        split
        · rename_i h3
          have hij : i = j := by omega
          subst hij
          rcases hc with hc | hc
          · exact (h3.2 hc).elim
          · rw [hc, Rat.neg_zero, Rat.mul_zero, Rat.add_zero]
        · rfl
    · rename_i hc
      have l1 : ((elimTo M a k j).getD j []).length = m := h1.2 j (by omega)
      have l2 : ((elimTo M a k j).getD a []).length = m := h1.2 a ha
      refine ⟨h1.set (by rw [addL_len, scaleL_len, l1, l2, Nat.min_self]), fun i c => ?_⟩
      rw [eQ_set _ (by rw [h1.1]; omega), addL_get (by rw [scaleL_len, l1, l2]), scaleL_get]
      show (if i = j then eQ (elimTo M a k j) j c + eQ (elimTo M a k j) a c * (-(eQ M j k)) else eQ (elimTo M a k j) i c) = _
      rw [hja, haa, h2]
      by_cases hi : i = j
      · subst hi
        rw [if_pos rfl, if_pos ⟨by omega, fun e => hc (.inl e)⟩]
      · rw [if_neg hi]
        by_cases h3 : i < j ∧ i ≠ a
        · rw [if_pos h3, if_pos ⟨by omega, h3.2⟩]
        · rw [if_neg h3, if_neg (by omega)]

/-- What a row is after the rows a and i changed places. -/
def swE (M : QM) (a i j c : Nat) : Rat := if j = i then eQ M a c else if j = a then eQ M i c else eQ M j c
theorem swE_a (M : QM) (a i c : Nat) : swE M a i a c = eQ M i c := by
  unfold swE
  split
  · rename_i h; rw [h]
  · rw [if_pos rfl]
theorem step_at {M : QM} {n m a i : Nat} (h : Shp M n m) (ha : a < n) (hi : i < n) (k : Nat) :
    Shp (elimTo (oneL (swapL M a i) a k) a k n) n m ∧ ∀ j c, j < n → eQ (elimTo (oneL (swapL M a i) a k) a k n) j c =
      if j = a then eQ M i c * (1 / eQ M i k) else swE M a i j c + eQ M i c * (1 / eQ M i k) * (-(swE M a i j k)) := by
  have h1 := shp_swap h ha hi
  have h2 := shp_one (k := k) h1 ha
  obtain ⟨h3, h4⟩ := elim_at h2 ha k n (Nat.le_refl _)
  refine ⟨h3, fun j c hj => ?_⟩
  have hs : ∀ j c, eQ (swapL M a i) j c = swE M a i j c := fun j c => eQ_swap h ha hi j c
  have ho : ∀ j c, eQ (oneL (swapL M a i) a k) j c = if j = a then eQ M i c * (1 / eQ M i k) else swE M a i j c := fun j c => by
    rw [eQ_one h1 ha, hs, hs, hs, swE_a, swE_a]
  rw [h4, ho, ho, ho]
  by_cases hja : j = a
  · subst hja
    rw [if_neg (by omega), if_pos rfl, if_pos rfl]
  · rw [if_pos ⟨hj, hja⟩, if_neg hja, if_neg hja, if_neg hja, if_pos rfl]

/-! ### the shape -/

structure RInv (n m : Nat) (M : QM) (P : List Nat) (k : Nat) : Prop where
  shp : Shp M n m
  le : P.length ≤ n
  lt : ∀ i, i < P.length → P.getD i 0 < k
  inc : ∀ i j, i < j → j < P.length → P.getD i 0 < P.getD j 0
  one : ∀ i j, i < P.length → j < n → eQ M j (P.getD i 0) = if j = i then 1 else 0
  lead : ∀ i c, i < P.length → c < P.getD i 0 → eQ M i c = 0
  nil : ∀ i c, P.length ≤ i → i < n → c < k → eQ M i c = 0

theorem getD_snoc (P : List Nat) (k i : Nat) : (P ++ [k]).getD i 0 = if i < P.length then P.getD i 0 else if i = P.length then k else 0 := by
  rw [List.getD_eq_getElem?_getD, List.getD_eq_getElem?_getD]
  split
  · rename_i h; rw [List.getElem?_append_left h]
  · rename_i h
    rw [List.getElem?_append_right (by omega)]
    split
    · rename_i h2; rw [h2, Nat.sub_self]; rfl
    · rename_i h2
      rw [List.getElem?_eq_none (by simp only [List.length_cons, List.length_nil]; omega)]
      rfl

/-- A step: no row has anything there; or one has, and is made the next row. -/
theorem step_cases {n m : Nat} {M : QM} {P : List Nat} {k : Nat} (h : RInv n m M P k) :
    (stepQ (M, P) k = (M, P) ∧ ∀ i, P.length ≤ i → i < n → eQ M i k = 0) ∨
    (∃ i, P.length ≤ i ∧ i < n ∧ eQ M i k ≠ 0 ∧ stepQ (M, P) k = (elimTo (oneL (swapL M P.length i) P.length k) P.length k n, P ++ [k])) := by
  have hl := h.shp.1
  have hg := pivQ_ge (Q := M) (k := k) (a := P.length) (by rw [hl]; exact h.le)
  unfold stepQ
  dsimp only
  by_cases hp : pivQ M k P.length = M.length
  · left
    rw [if_pos hp]
    refine ⟨rfl, fun i h1 h2 => ?_⟩
    unfold pivQ at hp
    exact pivFrom_z M k (M.length - P.length) P.length i h1 (by omega)
  · right
    rw [if_neg hp, hl]
    exact ⟨pivQ M k P.length, hg.1, by omega, pivQ_nz (by rw [hl]; exact h.le) (by omega), rfl⟩

theorem step_inv {n m : Nat} {M : QM} {P : List Nat} {k : Nat} (h : RInv n m M P k) (hk : k < m) : RInv n m (stepQ (M, P) k).1 (stepQ (M, P) k).2 (k + 1) := by
  rcases step_cases h with ⟨he, hz⟩ | ⟨i, hai, hin, hx, he⟩
  · rw [he]
    refine ⟨h.shp, h.le, fun i hi => Nat.lt_succ_of_lt (h.lt i hi), h.inc, h.one, h.lead, fun i c h1 h2 h3 => ?_⟩
    by_cases hc : c = k
    · rw [hc]; exact hz i h1 h2
    · exact h.nil i c h1 h2 (by omega)
  · rw [he]
    dsimp only
    have ha : P.length < n := by omega
    obtain ⟨hs, hN⟩ := step_at h.shp ha hin k
    have hmul : eQ M i k * (1 / eQ M i k) = 1 := by rw [Rat.div_def, Rat.one_mul]; exact Rat.mul_inv_cancel _ hx
    have hlen : (P ++ [k]).length = P.length + 1 := by rw [List.length_append]; rfl
    have hz : ∀ c, c < k → eQ M i c = 0 := fun c hc => h.nil i c hai hin hc
    have hsw : ∀ j c, c < k → P.length ≤ j → j < n → swE M P.length i j c = 0 := fun j c hc h1 h2 => by
      unfold swE
      split
      · exact h.nil _ c (Nat.le_refl _) ha hc
      · split
        · exact hz c hc
        · exact h.nil j c h1 h2 hc
    have hsl : ∀ j c, j < P.length → swE M P.length i j c = eQ M j c := fun j c hj => by
      unfold swE
      rw [if_neg (by omega), if_neg (by omega)]
    refine ⟨hs, by omega, fun l hl => ?_, fun l j hlj hj => ?_, fun l j hl hj => ?_, fun l c hl hc => ?_, fun l c hl hln hc => ?_⟩
    · rw [getD_snoc]
      split
      · rename_i h1; exact Nat.lt_succ_of_lt (h.lt l h1)
      · rw [if_pos (by omega)]; omega
    · rw [getD_snoc, getD_snoc, if_pos (by omega)]
      split
      · rename_i h1; exact h.inc l j hlj h1
      · rw [if_pos (by omega)]; exact h.lt l (by omega)
    · rw [hN _ _ hj, getD_snoc]
      by_cases hl' : l < P.length
      · rw [if_pos hl', hz _ (h.lt l hl')]
        by_cases hja : j = P.length
        · rw [if_pos hja, if_neg (by omega)]; simp [Rat.add_zero, Rat.zero_mul, Rat.mul_zero]
        · rw [if_neg hja]
          by_cases hjl : j < P.length
          · rw [hsl j _ hjl, h.one l j hl' hj]; simp [Rat.add_zero, Rat.zero_mul, Rat.mul_zero]
          · rw [hsw j _ (h.lt l hl') (by omega) hj, if_neg (by omega)]; simp [Rat.add_zero, Rat.zero_mul, Rat.mul_zero]
      · have hla : l = P.length := by omega
        rw [if_neg hl', if_pos hla, hmul, hla]
        by_cases hja : j = P.length
        · rw [if_pos hja, if_pos hja]
        · rw [if_neg hja, if_neg hja, Rat.one_mul, Rat.add_neg_cancel]
    · rw [getD_snoc] at hc
      by_cases hl' : l < P.length
      · rw [if_pos hl'] at hc
        have hck := h.lt l hl'
        rw [hN _ _ (by omega), if_neg (by omega), hz c (by omega), hsl l c hl', h.lead l c hl' hc]; simp [Rat.add_zero, Rat.zero_mul, Rat.mul_zero]
      · rw [if_neg hl', if_pos (by omega)] at hc
        rw [hN _ _ (by omega), if_pos (by omega), hz c hc]; simp [Rat.add_zero, Rat.zero_mul, Rat.mul_zero]
    · rw [hN _ _ hln, if_neg (by omega)]
      by_cases hck : c = k
      · rw [hck, hmul, Rat.one_mul, Rat.add_neg_cancel]
      · rw [hz c (by omega), hsw l c (by omega) (by omega) hln]; simp [Rat.add_zero, Rat.zero_mul, Rat.mul_zero]

theorem red_inv {Q : QM} {n m : Nat} (h : Shp Q n m) (k : Nat) (hk : k ≤ m) : RInv n m (redTo Q k).1 (redTo Q k).2 k := by
  induction k with
  | zero => exact ⟨h, Nat.zero_le _, fun i hi => absurd hi (by simp [redTo]), fun i j _ hi => absurd hi (by simp [redTo]), fun i j hi => absurd hi (by simp [redTo]), fun i c hi => absurd hi (by simp [redTo]), fun i c _ _ hc => by omega⟩
  | succ k ih => rw [redTo_succ]; exact step_inv (ih (by omega)) (by omega)

theorem RInv.room {n m : Nat} {M : QM} {P : List Nat} {k : Nat} (h : RInv n m M P k) (d : Nat) : ∀ i, i < P.length → d = P.length - i → P.getD i 0 + d ≤ k := by
  induction d with
  | zero => intro i h1 h2; omega
  | succ d ih =>
    intro i h1 h2
    by_cases he : i + 1 < P.length
    · have h3 := ih (i + 1) he (by omega)
      have h4 := h.inc i (i + 1) (by omega) he
      omega
    · have := h.lt i h1
      omega
theorem RInv.len_le {n m : Nat} {M : QM} {P : List Nat} {k : Nat} (h : RInv n m M P k) : P.length ≤ k := by
  by_cases h0 : P.length = 0
  · omega
  · have := h.room P.length 0 (by omega) (by omega); omega
theorem RInv.ge {n m : Nat} {M : QM} {P : List Nat} {k : Nat} (h : RInv n m M P k) : ∀ i, i < P.length → i ≤ P.getD i 0 := by
  intro i
  induction i with
  | zero => intro _; exact Nat.zero_le _
  | succ i ih => intro hi; have h1 := ih (by omega); have h2 := h.inc i (i + 1) (by omega) hi; omega
/-- As many ones as columns: each stands at its own. -/
theorem RInv.id {n m : Nat} {M : QM} {P : List Nat} {k : Nat} (h : RInv n m M P k) (hp : P.length = k) : ∀ i, i < P.length → P.getD i 0 = i := fun i hi => by
  have h1 := h.ge i hi
  have h2 := h.room (P.length - i) i hi rfl
  omega

/-! ### reduced again -/

theorem set_self {M : QM} {i : Nat} (h : i < M.length) : M.set i (M.getD i []) = M := by
  apply List.ext_getElem?
  intro j
  by_cases he : i = j
  · subst he
    rw [List.getElem?_set_self h, List.getD_eq_getElem?_getD, List.getElem?_eq_getElem h]; rfl
  · rw [List.getElem?_set_ne he]
theorem again {n m : Nat} {R : QM} {P : List Nat} (h : RInv n m R P m) (k : Nat) (hk : k ≤ m) :
    ∃ t, t ≤ P.length ∧ redTo R k = (R, P.take t) ∧ (∀ i, i < t → P.getD i 0 < k) ∧ (∀ i, t ≤ i → i < P.length → k ≤ P.getD i 0) := by
  induction k with
  | zero => exact ⟨0, Nat.zero_le _, rfl, fun i hi => by omega, fun i _ _ => Nat.zero_le _⟩
  | succ k ih =>
    obtain ⟨t, h1, h2, h3, h4⟩ := ih (by omega)
    have hl := h.shp.1
    have hle := h.le
    have htl : (P.take t).length = t := by rw [List.length_take]; omega
    rw [redTo_succ, h2]
    unfold stepQ
    dsimp only
    rw [htl]
    by_cases hc : t < P.length ∧ P.getD t 0 = k
    · have h1t := h.one t t hc.1 (by omega)
      rw [hc.2, if_pos rfl] at h1t
      have hp : pivQ R k t = t := by
        unfold pivQ
        rw [show R.length - t = (n - t - 1) + 1 by omega]
        unfold pivFrom
        rw [h1t, if_neg (by decide)]
      have hs : swapL R t t = R := by
        unfold swapL
        rw [set_self (by omega), set_self (by omega)]
      have ho : oneL R t k = R := by
        unfold oneL
        have : scaleL (R.getD t []) (1 / eQ R t k) = R.getD t [] := by
          rw [h1t]
          unfold scaleL
          rw [show (1 : Rat) / 1 = 1 by grind]
          simp
        rw [this, set_self (by omega)]
      have he : ∀ j, j ≤ n → elimTo R t k j = R := by
        intro j
        induction j with
        | zero => intro _; rfl
        | succ j ihj =>
          intro hj
          rw [elimTo_succ, ihj (by omega)]
          unfold elim1
          by_cases hjt : j = t
          · rw [if_pos (.inl hjt)]
          · have h5 := h.one t j hc.1 (by omega)
            rw [hc.2, if_neg hjt] at h5
            rw [if_pos (.inr h5)]
      rw [hp, if_neg (by omega), hs, ho, he _ (by omega)]
      refine ⟨t + 1, by omega, ?_, fun i hi => ?_, fun i h5 h6 => ?_⟩
      · have : P.take t ++ [k] = P.take (t + 1) := by
          rw [List.take_succ_eq_append_getElem hc.1]
          have h6 := hc.2
          rw [List.getD_eq_getElem?_getD, List.getElem?_eq_getElem hc.1] at h6
          rw [show P[t] = k from h6]
        rw [this]
      · by_cases hit : i = t
        · rw [hit, hc.2]; omega
        · have := h3 i (by omega); omega
      · have h7 := h.inc t i (by omega) h6
        rw [hc.2] at h7
        omega
    · have hz : pivQ R k t = R.length := by
        unfold pivQ
        rw [pivFrom_all R k (R.length - t) t (fun j h5 h6 => ?_)]
        · omega
        · by_cases hj : j < P.length
          · refine h.lead j k hj ?_
            have h7 := h4 j h5 hj
            by_cases hjt : j = t
            · subst hjt
              have : P.getD j 0 ≠ k := fun e => hc ⟨hj, e⟩
              omega
            · have h8 := h4 t (Nat.le_refl _) (by omega)
              have h9 := h.inc t j (by omega) hj
              omega
          · exact h.nil j k (by omega) (by omega) (by omega)
      rw [if_pos hz]
      refine ⟨t, h1, rfl, fun i hi => by have := h3 i hi; omega, fun i h5 h6 => ?_⟩
      have h7 := h4 i h5 h6
      have h8 := h4 t (Nat.le_refl _) (by omega)
      by_cases hit : i = t
      · subst hit
        have : P.getD i 0 ≠ k := fun e => hc ⟨h6, e⟩
        omega
      · have h9 := h.inc t i (by omega) h6
        omega
/-- Reduced again it is itself. -/
theorem red_red {n m : Nat} {R : QM} {P : List Nat} (h : RInv n m R P m) : redTo R m = (R, P) := by
  obtain ⟨t, h1, h2, _, h4⟩ := again h m (Nat.le_refl _)
  have ht : t = P.length := by
    by_cases hlt : t < P.length
    · have h5 := h4 t (Nat.le_refl _) hlt
      have h6 := h.lt t hlt
      omega
    · omega
  rw [h2, ht, List.take_length]

end Go.Off
set_option linter.unusedVariables false
set_option linter.unusedSimpArgs false
namespace Go.Off

def sumR : Nat → (Nat → Rat) → Rat
  | 0, _ => 0
  | n + 1, f => sumR n f + f n
theorem sumR_congr {n : Nat} {f g : Nat → Rat} (h : ∀ i, i < n → f i = g i) : sumR n f = sumR n g := by
  induction n with
  | zero => rfl
  | succ n ih => unfold sumR; rw [ih (fun i hi => h i (by omega)), h n (by omega)]
theorem sumR_zero (n : Nat) : sumR n (fun _ => 0) = 0 := by
  induction n with
  | zero => rfl
  | succ n ih => unfold sumR; rw [ih]; exact Rat.add_zero 0
theorem sumR_zero' {n : Nat} {f : Nat → Rat} (h : ∀ i, i < n → f i = 0) : sumR n f = 0 := by rw [sumR_congr h, sumR_zero]
theorem sumR_lin (n : Nat) (f g : Nat → Rat) (q : Rat) : sumR n (fun i => f i + g i * q) = sumR n f + sumR n g * q := by
  induction n with
  | zero => simp [sumR, Rat.add_zero, Rat.zero_add, Rat.zero_mul]
  | succ n ih => unfold sumR; rw [ih]; grind
theorem sumR_mul (n : Nat) (f : Nat → Rat) (q : Rat) : sumR n (fun i => f i * q) = sumR n f * q := by
  induction n with
  | zero => simp [sumR, Rat.add_zero, Rat.zero_add, Rat.zero_mul]
  | succ n ih => unfold sumR; rw [ih]; grind
theorem sumR_add (n : Nat) (f g : Nat → Rat) : sumR n (fun i => f i + g i) = sumR n f + sumR n g := by
  induction n with
  | zero => simp [sumR, Rat.add_zero, Rat.zero_add, Rat.zero_mul]
  | succ n ih => unfold sumR; rw [ih]; grind
theorem sumR_single (n j : Nat) (g : Nat → Rat) : sumR n (fun i => if j = i then g i else 0) = if j < n then g j else 0 := by
  induction n with
  | zero => simp [sumR, Rat.add_zero, Rat.zero_add, Rat.zero_mul]
  | succ n ih =>
    unfold sumR
    rw [ih]
    dsimp only
    by_cases h : j = n
    · subst h; rw [if_neg (by omega), if_pos rfl, if_pos (by omega)]; simp [Rat.add_zero, Rat.zero_add, Rat.zero_mul]
    · rw [if_neg h]
      by_cases h2 : j < n
      · rw [if_pos h2, if_pos (by omega)]; simp [Rat.add_zero, Rat.zero_add, Rat.zero_mul]
      · rw [if_neg h2, if_neg (by omega)]; simp [Rat.add_zero, Rat.zero_add, Rat.zero_mul]
theorem sumR_comm (n m : Nat) (f : Nat → Nat → Rat) : sumR n (fun i => sumR m (fun j => f i j)) = sumR m (fun j => sumR n (fun i => f i j)) := by
  induction n with
  | zero => exact (sumR_zero m).symm
  | succ n ih =>
    conv => lhs; unfold sumR
    rw [ih, ← sumR_add]
    rfl

/-- Whatever holds of sums. -/
structure Lin (m : Nat) (T : (Nat → Rat) → Prop) : Prop where
  zero : T (fun _ => 0)
  comb : ∀ u w q, T u → T w → T (fun c => u c + w c * q)
  congr : ∀ u w, (∀ c, c < m → u c = w c) → T u → T w
/-- What is put together of n rows (as far as m places go). -/
def Spn (n m : Nat) (f : Nat → Nat → Rat) (v : Nat → Rat) : Prop := ∀ T, Lin m T → (∀ i, i < n → T (f i)) → T v
theorem Spn.row {n m : Nat} {f : Nat → Nat → Rat} {i : Nat} (h : i < n) : Spn n m f (f i) := fun T _ hr => hr i h
theorem Spn.lin (n m : Nat) (f : Nat → Nat → Rat) : Lin m (Spn n m f) :=
  ⟨fun T hT _ => hT.zero, fun u w q hu hw T hT hr => hT.comb u w q (hu T hT hr) (hw T hT hr), fun u w h hu T hT hr => hT.congr u w h (hu T hT hr)⟩
theorem Spn.trans {n k m : Nat} {f g : Nat → Nat → Rat} {v : Nat → Rat} (h : ∀ i, i < k → Spn n m f (g i)) (hv : Spn k m g v) : Spn n m f v := hv _ (Spn.lin n m f) h
theorem Spn.sum {n m : Nat} (f : Nat → Nat → Rat) (q : Nat → Rat) (k : Nat) (hk : k ≤ n) : Spn n m f (fun c => sumR k (fun i => f i c * q i)) := by
  induction k with
  | zero => exact (Spn.lin n m f).zero
  | succ k ih => exact (Spn.lin n m f).comb _ _ (q k) (ih (by omega)) (Spn.row (by omega))

theorem step_old {n m : Nat} {M : QM} {P : List Nat} {k : Nat} (h : RInv n m M P k) (hk : k < m) (j : Nat) (hj : j < n) : Spn n m (eQ (stepQ (M, P) k).1) (eQ M j) := by
  rcases step_cases h with ⟨he, hz⟩ | ⟨i, hai, hin, hx, he⟩
  · rw [he]; exact Spn.row hj
  · rw [he]
    dsimp only
    have ha : P.length < n := by omega
    obtain ⟨hs, hN⟩ := step_at h.shp ha hin k
    generalize elimTo (oneL (swapL M P.length i) P.length k) P.length k n = N at *
    have hmul : eQ M i k * (1 / eQ M i k) = 1 := by rw [Rat.div_def, Rat.one_mul]; exact Rat.mul_inv_cancel _ hx
    generalize 1 / eQ M i k = y at *
    have l := Spn.lin n m (eQ N)
    have h1 : Spn n m (eQ N) (eQ M i) := by
      refine l.congr _ _ ?_ (l.comb _ _ (eQ M i k) l.zero (Spn.row ha))
      intro c _
      rw [hN _ _ ha, if_pos rfl]
      grind
    have h2 : ∀ j, j < n → j ≠ P.length → Spn n m (eQ N) (swE M P.length i j) := fun j hj hja => by
      refine l.congr _ _ ?_ (l.comb _ _ (swE M P.length i j k) (Spn.row hj) (Spn.row ha))
      intro c _
      rw [hN _ _ ha, hN _ _ hj, if_pos rfl, if_neg hja]
      grind
    by_cases hji : j = i
    · rw [hji]; exact h1
    · by_cases hja : j = P.length
      · have h3 := h2 i hin (by omega)
        refine l.congr _ _ ?_ h3
        intro c _
        unfold swE; rw [if_pos rfl, hja]
      · have h3 := h2 j hj hja
        refine l.congr _ _ ?_ h3
        intro c _
        unfold swE; rw [if_neg hji, if_neg hja]
theorem step_new {n m : Nat} {M : QM} {P : List Nat} {k : Nat} (h : RInv n m M P k) (hk : k < m) (j : Nat) (hj : j < n) : Spn n m (eQ M) (eQ (stepQ (M, P) k).1 j) := by
  rcases step_cases h with ⟨he, hz⟩ | ⟨i, hai, hin, hx, he⟩
  · rw [he]; exact Spn.row hj
  · rw [he]
    dsimp only
    have ha : P.length < n := by omega
    obtain ⟨hs, hN⟩ := step_at h.shp ha hin k
    generalize elimTo (oneL (swapL M P.length i) P.length k) P.length k n = N at *
    generalize 1 / eQ M i k = y at *
    have l := Spn.lin n m (eQ M)
    have h2 : ∀ j, j < n → Spn n m (eQ M) (swE M P.length i j) := fun j hj => by
      unfold swE
      by_cases h3 : j = i
      · simp only [if_pos h3]; exact Spn.row ha
      · by_cases h4 : j = P.length
        · simp only [if_neg h3, if_pos h4]; exact Spn.row hin
        · simp only [if_neg h3, if_neg h4]; exact Spn.row hj
    by_cases hja : j = P.length
    · refine l.congr _ _ ?_ (l.comb _ _ y l.zero (Spn.row hin))
      intro c _
      rw [hN _ _ hj, if_pos hja]
      grind
    · refine l.congr _ _ ?_ (l.comb _ _ (y * (-(swE M P.length i j k))) (h2 j hj) (Spn.row hin))
      intro c _
      rw [hN _ _ hj, if_neg hja]
      grind
theorem red_old {Q : QM} {n m : Nat} (h : Shp Q n m) (k : Nat) (hk : k ≤ m) : ∀ j, j < n → Spn n m (eQ (redTo Q k).1) (eQ Q j) := by
  induction k with
  | zero => intro j hj; exact Spn.row hj
  | succ k ih =>
    intro j hj
    rw [redTo_succ]
    exact Spn.trans (fun i hi => step_old (red_inv h k (by omega)) (by omega) i hi) (ih (by omega) j hj)
theorem red_new {Q : QM} {n m : Nat} (h : Shp Q n m) (k : Nat) (hk : k ≤ m) : ∀ j, j < n → Spn n m (eQ Q) (eQ (redTo Q k).1 j) := by
  induction k with
  | zero => intro j hj; exact Spn.row hj
  | succ k ih =>
    intro j hj
    rw [redTo_succ]
    exact Spn.trans (ih (by omega)) (step_new (red_inv h k (by omega)) (by omega) j hj)

/-- What is put together of the rows of a reduced form is so by what stands at the places of the ones. -/
theorem spans {n m : Nat} {R : QM} {P : List Nat} (h : RInv n m R P m) {v : Nat → Rat} (hv : Spn n m (eQ R) v) : ∀ c, c < m → v c = sumR P.length (fun i => eQ R i c * v (P.getD i 0)) := by
  refine hv (fun v => ∀ c, c < m → v c = sumR P.length (fun i => eQ R i c * v (P.getD i 0))) ⟨?_, ?_, ?_⟩ ?_
  · intro c _
    rw [sumR_zero' (fun i _ => Rat.mul_zero _)]
  · intro u w q hu hw c hc
    dsimp only
    rw [hu c hc, hw c hc, ← sumR_lin]
    refine sumR_congr (fun i _ => ?_)
    grind
  · intro u w he hu c hc
    rw [← he c hc, hu c hc]
    exact sumR_congr (fun i hi => by rw [he _ (h.lt i hi)])
  · intro j hj c hc
    have h1 : ∀ i, i < P.length → eQ R i c * eQ R j (P.getD i 0) = if j = i then eQ R i c else 0 := fun i hi => by
      rw [h.one i j hi hj]
      split <;> simp
    rw [sumR_congr h1, sumR_single]
    split
    · rfl
    · rename_i h2; exact h.nil j c (by omega) hj hc
theorem red_spans {Q : QM} {n m : Nat} (h : Shp Q n m) (j c : Nat) (hj : j < n) (hc : c < m) : eQ Q j c = sumR (redTo Q m).2.length (fun i => eQ (redTo Q m).1 i c * eQ Q j ((redTo Q m).2.getD i 0)) :=
  spans (red_inv h m (Nat.le_refl _)) (red_old h m (Nat.le_refl _) j hj) c hc

/-- Of r rows no more than r that have ones at places of their own are put together. -/
theorem dim_le : ∀ (r : Nat) (u : Nat → Nat → Rat) (m s : Nat) (w : Nat → Nat → Rat) (p : Nat → Nat), (∀ i, i < s → p i < m) → (∀ i, i < s → Spn r m u (w i)) →
    (∀ i l, i < s → l < s → w i (p l) = if i = l then 1 else 0) → s ≤ r := by
  intro r
  induction r with
  | zero =>
    intro u m s w p hp hw h1
    by_cases h0 : s = 0
    · omega
    · have hz : ∀ c, c < m → w 0 c = 0 := hw 0 (by omega) (fun v => ∀ c, c < m → v c = 0) ⟨fun _ _ => rfl, fun u w q hu hw c hc => by dsimp only; rw [hu c hc, hw c hc]; simp [Rat.add_zero, Rat.zero_mul], fun u w he hu c hc => by rw [← he c hc]; exact hu c hc⟩ (fun i hi => by omega)
      have h2 := h1 0 0 (by omega) (by omega)
      rw [hz _ (hp 0 (by omega)), if_pos rfl] at h2
      exact absurd h2 (by decide)
  | succ r ih =>
    intro u m s w p hp hw h1
    cases s with
    | zero => omega
    | succ s =>
      have hps : p s < m := hp s (by omega)
      have hex : ∃ l, l < r + 1 ∧ u l (p s) ≠ 0 := by
        refine Classical.byContradiction (fun hn => ?_)
        have hz : w s (p s) = 0 := hw s (by omega) (fun v => v (p s) = 0) ⟨rfl, fun u w q hu hw => by dsimp only; rw [hu, hw]; simp [Rat.add_zero, Rat.zero_mul], fun u w he hu => by rw [← he _ hps]; exact hu⟩ (fun i hi => Classical.byContradiction (fun h => hn ⟨i, hi, h⟩))
        have h2 := h1 s s (by omega) (by omega)
        rw [hz, if_pos rfl] at h2
        exact absurd h2 (by decide)
      obtain ⟨l, hl, hx⟩ := hex
      have hmul : u l (p s) * (u l (p s))⁻¹ = 1 := Rat.mul_inv_cancel _ hx
      generalize hy : (u l (p s))⁻¹ = y at hmul
      have key : ∀ v, Spn (r + 1) m u v → Spn r m (fun j c => u (if j = l then r else j) c + u l c * (-(u (if j = l then r else j) (p s) * y))) (fun c => v c + u l c * (-(v (p s) * y))) := by
        intro v hv
        have L := Spn.lin r m (fun j c => u (if j = l then r else j) c + u l c * (-(u (if j = l then r else j) (p s) * y)))
        refine hv (fun v => Spn r m (fun j c => u (if j = l then r else j) c + u l c * (-(u (if j = l then r else j) (p s) * y))) (fun c => v c + u l c * (-(v (p s) * y)))) ⟨?_, ?_, ?_⟩ ?_
        · refine L.congr _ _ ?_ L.zero
          intro c _; grind
        · intro a b q ha hb
          refine L.congr _ _ ?_ (L.comb _ _ q ha hb)
          intro c _; dsimp only; grind
        · intro a b he ha
          refine L.congr _ _ ?_ ha
          intro c hc; rw [he c hc, he _ hps]
        · intro j hj
          by_cases hjl : j = l
          · subst hjl
            refine L.congr _ _ ?_ L.zero
            intro c _; grind
          · by_cases hjr : j = r
            · have hlr : l < r := by omega
              have := Spn.row (n := r) (m := m) (f := fun j c => u (if j = l then r else j) c + u l c * (-(u (if j = l then r else j) (p s) * y))) hlr
              simp only [if_true] at this
              rw [hjr]; exact this
            · have := Spn.row (n := r) (m := m) (f := fun j c => u (if j = l then r else j) c + u l c * (-(u (if j = l then r else j) (p s) * y))) (i := j) (by omega)
              simp only [if_neg hjl] at this
              exact this
      have := ih (fun j c => u (if j = l then r else j) c + u l c * (-(u (if j = l then r else j) (p s) * y))) m s w p (fun i hi => hp i (by omega)) (fun i hi => ?_) (fun i l hi hl => h1 i l (by omega) (by omega))
      · omega
      · refine (Spn.lin r m _).congr _ _ ?_ (key (w i) (hw i (by omega)))
        intro c _
        rw [h1 i s (by omega) (by omega), if_neg (by omega)]
        grind
/-- The rank of a matrix that is turned is not more. -/
theorem rank_le {Q T : QM} {n m : Nat} (hQ : Shp Q n m) (hT : Shp T m n) (h : ∀ i k, i < n → k < m → eQ T k i = eQ Q i k) : (redTo T n).2.length ≤ (redTo Q m).2.length := by
  have hR := red_inv hT n (Nat.le_refl _)
  refine dim_le _ (fun i j => eQ Q j ((redTo Q m).2.getD i 0)) n _ (fun i => eQ (redTo T n).1 i) (fun l => (redTo T n).2.getD l 0) (fun i hi => hR.lt i hi) (fun i hi => ?_) (fun i l hi hl => ?_)
  · refine Spn.trans (fun k hk => ?_) (red_new hT n (Nat.le_refl _) i (by have := hR.le; omega))
    refine (Spn.lin _ n _).congr _ _ ?_ (Spn.sum _ (fun i => eQ (redTo Q m).1 i k) _ (Nat.le_refl _))
    intro j hj
    rw [h j k hj hk, red_spans hQ j k hj hk]
    exact sumR_congr (fun i _ => Rat.mul_comm _ _)
  · have := hR.one l i hl (by have := hR.le; omega)
    exact this
theorem rank_turned {Q T : QM} {n m : Nat} (hQ : Shp Q n m) (hT : Shp T m n) (h : ∀ i k, i < n → k < m → eQ T k i = eQ Q i k) : (redTo T n).2.length = (redTo Q m).2.length :=
  Nat.le_antisymm (rank_le hQ hT h) (rank_le hT hQ (fun i k hi hk => (h k i hk hi).symm))

end Go.Off
