/- Plain: a model's problem. -/
import Derived.Test.YtdhkdnmefeeclaaX4
import Derived.Test.YtdhkdnmefeeclaaY1
set_option linter.unusedSimpArgs false
set_option linter.unusedVariables false
set_option linter.unnecessarySimpa false
set_option linter.unusedSimpArgs false
set_option linter.unusedVariables false
set_option maxRecDepth 100000
set_option maxHeartbeats 4000000
namespace Go.Proofs.Ytdhkdnmefeeclaa
open Go Go.Am Go.Proofs Go.RowKit Go.Off

theorem rowV_len (l : List Rat) : (osl (rowV l)).length = l.length := len_rw l
theorem rowV_get (l : List Rat) (i : Nat) : qAt (rowV l) i = l.getD i 0 := qAt_rw l i
theorem qAt_past {v : VV} {i : Nat} (h : (osl v).length ≤ i) : qAt v i = 0 := by unfold qAt; rw [rAt_out h]; exact zR_val
structure RtMd (m : MD) : Prop where
  v60 : (osl m.vars).length ≤ 60
  cost : (osl m.cost).length = (osl m.vars).length
  r60 : (osl m.rows).length ≤ 60
  row : ∀ i, i < (osl m.rows).length → (osl (rwAt m i).coef).length = (osl m.vars).length ∧ -1 ≤ (rwAt m i).rel ∧ (rwAt m i).rel ≤ 1
theorem rt_of {m : MD} (h : rightMd m = true) : RtMd m := by
  unfold rightMd at h
  simp only [Bool.and_eq_true, decide_eq_true_eq] at h
  obtain ⟨h1, h2, h3, _, _, h4⟩ := h
  have h4' : anyI (mdBad m) (osl m.rows).length = false := by simpa using h4
  refine ⟨h1, h2, h3, fun i hi => ?_⟩
  have := anyI_false h4' hi
  unfold mdBad rwBad at this
  simpa using this
theorem qAt_wide (l : VV) (n i : Nat) : (wideQ l n).getD i 0 = qAt l i := by
  unfold wideQ
  rw [List.getD_eq_getElem?_getD]
  by_cases h : i < (osl l).length
  · rw [List.getElem?_append_left (by rw [List.length_map]; exact h), List.getElem?_map, List.getElem?_eq_getElem h]
    unfold qAt; rw [rAt_in h]; rfl
  · rw [List.getElem?_append_right (by rw [List.length_map]; omega), qAt_past (by omega), List.getElem?_replicate]
    split <;> rfl
theorem slack_lt {m : MD} {i : Nat} (hi : i < (osl m.rows).length) (h0 : (rwAt m i).rel ≠ 0) : slackN m i < slackN m (osl m.rows).length := by
  have h1 := slackN_succ m hi
  rw [rwAt_in hi] at h0
  rw [if_neg h0] at h1
  have h2 := slackN_mono m (show i + 1 ≤ (osl m.rows).length from hi)
  omega
theorem ofRow_len {m : MD} (h : RtMd m) {i : Nat} (hi : i < (osl m.rows).length) : (ofRow m i).length = ofN m := by
  have h1 := (h.row i hi).1
  have : (osl (rwAt m i).coef).length ≤ ofN m := by unfold ofN; omega
  unfold ofRow
  split
  · exact wideQ_len _ _ this
  · rw [List.length_set]; exact wideQ_len _ _ this
theorem ofRow_get {m : MD} (h : RtMd m) {i : Nat} (hi : i < (osl m.rows).length) (k : Nat) :
    (ofRow m i).getD k 0 = qAt (rwAt m i).coef k + (if (osl m.vars).length + slackN m i = k then (if (rwAt m i).rel = 0 then 0 else ((0 - (rwAt m i).rel : Int) : Rat)) else 0) := by
  have h1 := (h.row i hi).1
  unfold ofRow
  by_cases h0 : (rwAt m i).rel = 0
  · rw [if_pos h0, qAt_wide, if_pos h0]
    split <;> exact (Rat.add_zero _).symm
  · rw [if_neg h0, if_neg h0]
    have hs := slack_lt hi h0
    by_cases hk : (osl m.vars).length + slackN m i = k
    · subst hk
      rw [if_pos rfl, List.getD_eq_getElem?_getD, List.getElem?_set_self (by rw [wideQ_len _ _ (by unfold ofN; omega)]; unfold ofN; omega), qAt_past (by omega), Rat.zero_add]
      rfl
    · rw [if_neg hk, List.getD_eq_getElem?_getD, List.getElem?_set_ne hk, ← List.getD_eq_getElem?_getD, qAt_wide, Rat.add_zero]
theorem ofP_A (m : MD) : (osl (ofP m).A).length = (osl m.rows).length := by
  show (osl (rowO ((ofA m (osl m.rows).length).map rowV))).length = _
  rw [osl_rowO, List.length_map]; unfold ofA; rw [List.length_map, List.length_range]
theorem ofP_row (m : MD) {i : Nat} (hi : i < (osl m.rows).length) : mAt (ofP m).A i = rowV (ofRow m i) := by
  unfold mAt
  show (osl (rowO ((ofA m (osl m.rows).length).map rowV))).getD i none = _
  rw [osl_rowO, List.getD_eq_getElem?_getD, List.getElem?_map]
  unfold ofA
  rw [List.getElem?_map, List.getElem?_range hi]
  rfl
theorem ofP_B (m : MD) {i : Nat} (hi : i < (osl m.rows).length) : qAt (ofP m).B i = (rwAt m i).b.val := by
  show qAt (rowV (ofB m (osl m.rows).length)) i = _
  rw [rowV_get]
  unfold ofB
  rw [List.getD_eq_getElem?_getD, List.getElem?_map, List.getElem?_range hi]
  rfl
theorem ofP_Bl (m : MD) : (osl (ofP m).B).length = (osl m.rows).length := by
  show (osl (rowV (ofB m (osl m.rows).length))).length = _
  rw [rowV_len]; unfold ofB; rw [List.length_map, List.length_range]
theorem ofP_C (m : MD) (i : Nat) : qAt (ofP m).C i = qAt m.cost i := by
  show qAt (rowV (wideQ m.cost (ofN m))) i = _
  rw [rowV_get, qAt_wide]
theorem ofP_Cl {m : MD} (h : RtMd m) : (osl (ofP m).C).length = ofN m := by
  show (osl (rowV (wideQ m.cost (ofN m)))).length = _
  rw [rowV_len, wideQ_len _ _ (by rw [h.cost]; unfold ofN; omega)]
theorem ofP_right {m : MD} (h : RtMd m) : rightB (ofP m) = true := by
  have hs := slackN_le m (osl m.rows).length
  have hv := h.v60
  have hr := h.r60
  unfold rightB
  rw [ofP_Cl h, ofP_A, ofP_Bl, decide_eq_true (show ofN m ≤ 5000 by unfold ofN; omega), decide_eq_true (show (osl m.rows).length ≤ 90 by omega), decide_eq_true rfl]
  have : anyI (rowBad (ofP m)) (osl m.rows).length = false := anyI_of (fun i hi => by
    unfold rowBad
    rw [ofP_row m hi, rowV_len, ofRow_len h hi, ofP_Cl h]
    simp)
  rw [this]; rfl

theorem sumR_tail {n N : Nat} {f : Nat → Rat} (h : n ≤ N) (hz : ∀ k, n ≤ k → k < N → f k = 0) : sumR N f = sumR n f := by
  induction N with
  | zero => have : n = 0 := by omega
            rw [this]
  | succ N ih =>
    by_cases he : n = N + 1
    · rw [he]
    · unfold sumR
      rw [ih (by omega) (fun k h1 h2 => hz k h1 (by omega)), hz N (by omega) (by omega), Rat.add_zero]
      cases n <;> rfl
theorem back_len {m : MD} {y : VV} (h : (osl m.vars).length ≤ (osl y).length) : (backL m y).length = (osl m.vars).length := by
  unfold backL; rw [List.length_map, List.length_take]; omega
theorem back_get {m : MD} {y : VV} {k : Nat} (hk : k < (osl m.vars).length) : qAt (rowV (backL m y)) k = qAt y k := by
  rw [rowV_get]
  unfold backL qAt rAt
  rw [List.getD_eq_getElem?_getD, List.getD_eq_getElem?_getD, List.getElem?_map, List.getElem?_take_of_lt hk]
  cases (osl y)[k]? with
  | none => exact zR_val.symm
  | some r => rfl
/-- A row as long as there are variables, of numbers that are more. -/
theorem dot_back {m : MD} {c y : VV} {N : Nat} (hc : (osl c).length = (osl m.vars).length) (hN : (osl m.vars).length ≤ N) (hy : (osl m.vars).length ≤ (osl y).length) : sumR N (fun k => qAt c k * qAt y k) = dotV c (rowV (backL m y)) := by
  rw [dot_sum]
  unfold vmin
  rw [rowV_len, back_len hy, hc, Nat.min_self, sumR_tail hN (fun k h1 _ => by rw [qAt_past (by omega), Rat.zero_mul])]
  exact sumR_congr (fun k hk => by rw [back_get hk])
theorem dot_ofRow {m : MD} (h : RtMd m) {i : Nat} (hi : i < (osl m.rows).length) {y : VV} (hy : (osl y).length = ofN m) :
    dotV (mAt (ofP m).A i) y = dotV (rwAt m i).coef (rowV (backL m y)) + (if (rwAt m i).rel = 0 then 0 else ((0 - (rwAt m i).rel : Int) : Rat) * qAt y ((osl m.vars).length + slackN m i)) := by
  have hv : (osl m.vars).length ≤ ofN m := by unfold ofN; omega
  rw [← dot_back (N := ofN m) (h.row i hi).1 hv (by omega), dot_sum]
  unfold vmin
  rw [ofP_row m hi, rowV_len, ofRow_len h hi, hy, Nat.min_self]
  have e : ∀ k, qAt (rowV (ofRow m i)) k * qAt y k = qAt (rwAt m i).coef k * qAt y k + (if (osl m.vars).length + slackN m i = k then ((if (rwAt m i).rel = 0 then 0 else ((0 - (rwAt m i).rel : Int) : Rat)) * qAt y k) else 0) := fun k => by
    rw [rowV_get, ofRow_get h hi, Rat.add_mul]
    congr 1
    split
    · rfl
    · exact Rat.zero_mul _
  rw [sumR_congr (fun k _ => e k), sumR_add, sumR_single]
  congr 1
  by_cases h0 : (rwAt m i).rel = 0
  · rw [if_pos h0, if_pos h0]
    split
    · exact Rat.zero_mul _
    · rfl
  · have := slack_lt hi h0
    rw [if_neg h0, if_neg h0, if_pos (by unfold ofN; omega)]
theorem dot_ofC {m : MD} (h : RtMd m) {y : VV} (hy : (osl y).length = ofN m) : dotV (ofP m).C y = dotV m.cost (rowV (backL m y)) := by
  have hv : (osl m.vars).length ≤ ofN m := by unfold ofN; omega
  rw [← dot_back (N := ofN m) h.cost hv (by omega), dot_sum]
  unfold vmin
  rw [ofP_Cl h, hy, Nat.min_self]
  exact sumR_congr (fun k _ => by rw [ofP_C])

/-! ### what does -/

theorem does_iff (p : PB) (y : VV) : doesB p y = true ↔ rightB p = true ∧ (osl y).length = (osl p.C).length ∧ (∀ i, i < (osl y).length → 0 ≤ qAt y i) ∧ ∀ i, i < (osl p.A).length → dotV (mAt p.A i) y = qAt p.B i := by
  unfold doesB
  simp only [Bool.and_eq_true, decide_eq_true_eq]
  constructor
  · rintro ⟨h1, h2, h3, h4⟩
    have h3' : anyI (pAt belowB y) (osl y).length = false := by simpa using h3
    refine ⟨h1, h2, fun i hi => ?_, fun i hi => ?_⟩
    · have := anyI_false h3' hi
      rwa [show pAt belowB y i = decide (qAt y i < 0) from rfl, decide_eq_false_iff_not, Rat.not_lt] at this
    · have := List.all_eq_true.1 h4 i (List.mem_range.2 hi)
      simpa using this
  · rintro ⟨h1, h2, h3, h4⟩
    refine ⟨h1, h2, ?_, ?_⟩
    · have : anyI (pAt belowB y) (osl y).length = false := anyI_of (fun i hi => by
        rw [show pAt belowB y i = decide (qAt y i < 0) from rfl, decide_eq_false_iff_not, Rat.not_lt]
        exact h3 i hi)
      rw [this]; rfl
    · unfold doesTo
      rw [List.all_eq_true]
      intro i hi
      rw [h4 i (List.mem_range.1 hi)]
      simp
theorem cmpQ_pos (a b : Rat) : (0 < cmpQ a b) ↔ b < a := by
  unfold cmpQ
  by_cases h1 : a < b
  · rw [if_pos h1]; constructor
    · intro h; exact absurd h (by decide)
    · intro h; grind
  · rw [if_neg h1]
    by_cases h2 : b < a
    · rw [if_pos h2]; simp [h2]
    · rw [if_neg h2]; simp [h2]
theorem cmpQ_neg (a b : Rat) : (cmpQ a b < 0) ↔ a < b := by
  unfold cmpQ
  by_cases h1 : a < b
  · rw [if_pos h1]; simp [h1]
  · rw [if_neg h1]
    by_cases h2 : b < a
    · rw [if_pos h2]; simp [h1]
    · rw [if_neg h2]; simp [h1]
theorem rowOk_iff (m : MD) (x : VV) (i : Nat) : rowOk m x i = true ↔ ((rwAt m i).rel ≤ 0 → dotV (rwAt m i).coef x ≤ (rwAt m i).b.val) ∧ (0 ≤ (rwAt m i).rel → (rwAt m i).b.val ≤ dotV (rwAt m i).coef x) := by
  unfold rowOk okZ
  simp only [Bool.not_eq_true', Bool.or_eq_false_iff, Bool.and_eq_false_iff, decide_eq_false_iff_not, cmpQ_pos, cmpQ_neg, Rat.not_lt]
  constructor
  · rintro ⟨h1, h2⟩
    exact ⟨fun h => h1.resolve_left (fun n => n h), fun h => h2.resolve_left (fun n => n h)⟩
  · rintro ⟨h1, h2⟩
    refine ⟨?_, ?_⟩
    · by_cases h : (rwAt m i).rel ≤ 0
      · exact .inr (h1 h)
      · exact .inl h
    · by_cases h : 0 ≤ (rwAt m i).rel
      · exact .inr (h2 h)
      · exact .inl h
theorem feas_iff (m : MD) (x : VV) : feasB m x = true ↔ (osl x).length = (osl m.vars).length ∧ (∀ i, i < (osl x).length → 0 ≤ qAt x i) ∧ ∀ i, i < (osl m.rows).length → rowOk m x i = true := by
  unfold feasB
  simp only [Bool.and_eq_true, decide_eq_true_eq]
  constructor
  · rintro ⟨h2, h3, h4⟩
    have h3' : anyI (pAt belowB x) (osl x).length = false := by simpa using h3
    refine ⟨h2, fun i hi => ?_, fun i hi => allI_at h4 hi⟩
    have := anyI_false h3' hi
    rwa [show pAt belowB x i = decide (qAt x i < 0) from rfl, decide_eq_false_iff_not, Rat.not_lt] at this
  · rintro ⟨h2, h3, h4⟩
    refine ⟨h2, ?_, ?_⟩
    · have : anyI (pAt belowB x) (osl x).length = false := anyI_of (fun i hi => by
        rw [show pAt belowB x i = decide (qAt x i < 0) from rfl, decide_eq_false_iff_not, Rat.not_lt]
        exact h3 i hi)
      rw [this]; rfl
    · unfold allI
      rw [List.all_eq_true]
      intro i hi
      exact h4 i (List.mem_range.1 hi)

/-- What does for the problem does for the model. -/
theorem does_feas {m : MD} (h : RtMd m) {y : VV} (hd : doesB (ofP m) y = true) : feasB m (rowV (backL m y)) = true := by
  obtain ⟨_, d2, d3, d4⟩ := (does_iff _ _).1 hd
  rw [ofP_Cl h] at d2
  have hv : (osl m.vars).length ≤ ofN m := by unfold ofN; omega
  refine (feas_iff _ _).2 ⟨by rw [rowV_len, back_len (by omega)], fun i hi => ?_, fun i hi => ?_⟩
  · rw [rowV_len, back_len (by omega)] at hi
    rw [back_get hi]
    exact d3 i (by omega)
  · have h1 := d4 i (by rw [ofP_A]; exact hi)
    rw [dot_ofRow h hi d2, ofP_B m hi] at h1
    obtain ⟨_, r1, r2⟩ := h.row i hi
    rw [rowOk_iff]
    by_cases h0 : (rwAt m i).rel = 0
    · rw [if_pos h0, Rat.add_zero] at h1
      rw [h1]
      exact ⟨fun _ => Rat.le_refl, fun _ => Rat.le_refl⟩
    · rw [if_neg h0] at h1
      have hs := slack_lt hi h0
      have hp := d3 ((osl m.vars).length + slackN m i) (by rw [d2]; unfold ofN; omega)
      have hc : (rwAt m i).rel = -1 ∨ (rwAt m i).rel = 1 := by omega
      rcases hc with hc | hc
      · rw [hc] at h1 ⊢
        have e : ((0 - -1 : Int) : Rat) = 1 := rfl
        rw [e, Rat.one_mul] at h1
        exact ⟨fun _ => by grind, fun h => absurd h (by decide)⟩
      · rw [hc] at h1 ⊢
        have e : ((0 - 1 : Int) : Rat) = -1 := rfl
        rw [e] at h1
        exact ⟨fun h => absurd h (by decide), fun _ => by grind⟩

/-! ### slack -/

theorem slackL_len {m : MD} {x : VV} : (slackL m x).length = (osl x).length + slackN m (osl m.rows).length := by
  unfold slackL; rw [List.length_append, List.length_map, slTo_len m x _ (Nat.le_refl _)]
theorem slackL_low {m : MD} {x : VV} {k : Nat} (hk : k < (osl x).length) : (slackL m x).getD k 0 = qAt x k := by
  unfold slackL
  rw [List.getD_eq_getElem?_getD, List.getElem?_append_left (by rw [List.length_map]; exact hk), List.getElem?_map, List.getElem?_eq_getElem hk]
  unfold qAt; rw [rAt_in hk]; rfl
theorem slTo_get (m : MD) (x : VV) (k : Nat) (hk : k ≤ (osl m.rows).length) : ∀ i, i < k → (rwAt m i).rel ≠ 0 → (slTo m x k).getD (slackN m i) 0 = ((rwAt m i).b.val - dotV (rwAt m i).coef x) * ((0 - (rwAt m i).rel : Int) : Rat) := by
  induction k with
  | zero => intro i hi; omega
  | succ k ih =>
    intro i hi h0
    have hsl := slTo_len m x k (by omega)
    rw [slTo_succ m x hk]
    by_cases he : i = k
    · subst he
      rw [rwAt_in hk] at h0 ⊢
      rw [List.getD_eq_getElem?_getD, List.getElem?_append_right (by omega), hsl, Nat.sub_self]
      unfold slPart
      rw [if_neg h0]
      rfl
    · have h1 := ih (by omega) i (by omega) h0
      have h2 : slackN m i < slackN m k := by
        have h3 := slackN_succ m (show i < (osl m.rows).length by omega)
        rw [rwAt_in (by omega)] at h0
        rw [if_neg h0] at h3
        have h4 := slackN_mono m (show i + 1 ≤ k by omega)
        omega
      rw [List.getD_eq_getElem?_getD, List.getElem?_append_left (by omega), ← List.getD_eq_getElem?_getD]
      exact h1
theorem slTo_mem (m : MD) (x : VV) (k : Nat) (hk : k ≤ (osl m.rows).length) : ∀ q ∈ slTo m x k, ∃ i, i < k ∧ (rwAt m i).rel ≠ 0 ∧ q = ((rwAt m i).b.val - dotV (rwAt m i).coef x) * ((0 - (rwAt m i).rel : Int) : Rat) := by
  induction k with
  | zero => intro q hq; exact absurd hq (by simp [slTo])
  | succ k ih =>
    intro q hq
    rw [slTo_succ m x hk] at hq
    rcases List.mem_append.1 hq with hq | hq
    · obtain ⟨i, h1, h2⟩ := ih (by omega) q hq
      exact ⟨i, by omega, h2⟩
    · unfold slPart at hq
      split at hq
      · simp at hq
      · rename_i h0
        refine ⟨k, by omega, by rw [rwAt_in hk]; exact h0, ?_⟩
        rw [rwAt_in hk]
        exact List.mem_singleton.1 hq
theorem slackL_back {m : MD} {x : VV} (hx : (osl x).length = (osl m.vars).length) : backL m (rowV (slackL m x)) = (osl x).map fun r => r.val := by
  apply List.ext_getElem
  · rw [back_len (by rw [rowV_len, slackL_len]; omega), List.length_map, hx]
  · intro i h1 h2
    rw [List.length_map] at h2
    have e1 : (backL m (rowV (slackL m x)))[i] = qAt (rowV (backL m (rowV (slackL m x)))) i := by rw [rowV_get, List.getD_eq_getElem?_getD, List.getElem?_eq_getElem h1]; rfl
    rw [e1, back_get (by omega), rowV_get, slackL_low h2, List.getElem_map]
    unfold qAt; rw [rAt_in h2]
/-- What does for the model does, with its slack, for the problem. -/
theorem feas_does {m : MD} (h : RtMd m) {x : VV} (hf : feasB m x = true) : doesB (ofP m) (rowV (slackL m x)) = true := by
  obtain ⟨f1, f2, f3⟩ := (feas_iff _ _).1 hf
  have hl : (osl (rowV (slackL m x))).length = ofN m := by rw [rowV_len, slackL_len, f1]; rfl
  have hbk : ∀ c : VV, dotV c (rowV (backL m (rowV (slackL m x)))) = dotV c x := fun c => by
    rw [dot_sum, dot_sum]
    unfold vmin
    rw [rowV_len, back_len (by rw [hl]; unfold ofN; omega), f1]
    exact sumR_congr (fun k hk => by rw [back_get (by omega), rowV_get, slackL_low (by omega)])
  have hpart : ∀ i, i < (osl m.rows).length → (rwAt m i).rel ≠ 0 → 0 ≤ ((rwAt m i).b.val - dotV (rwAt m i).coef x) * ((0 - (rwAt m i).rel : Int) : Rat) := fun i hi h0 => by
    have h1 := (rowOk_iff _ _ _).1 (f3 i hi)
    obtain ⟨_, r1, r2⟩ := h.row i hi
    have hc : (rwAt m i).rel = -1 ∨ (rwAt m i).rel = 1 := by omega
    rcases hc with hc | hc
    · rw [hc] at h1 ⊢
      have e : ((0 - -1 : Int) : Rat) = 1 := rfl
      have := h1.1 (by decide)
      rw [e]; grind
    · rw [hc] at h1 ⊢
      have e : ((0 - 1 : Int) : Rat) = -1 := rfl
      have := h1.2 (by decide)
      rw [e]; grind
  refine (does_iff _ _).2 ⟨ofP_right h, by rw [hl, ofP_Cl h], fun i hi => ?_, fun i hi => ?_⟩
  · rw [rowV_get]
    by_cases hx : i < (osl x).length
    · rw [slackL_low hx]; exact f2 i hx
    · rw [rowV_len] at hi
      have hm : (slackL m x).getD i 0 ∈ slTo m x (osl m.rows).length := by
        unfold slackL at hi ⊢
        rw [List.getD_eq_getElem?_getD, List.getElem?_append_right (by rw [List.length_map]; omega), List.length_map]
        rw [List.length_append, List.length_map] at hi
        rw [List.getElem?_eq_getElem (by omega)]
        exact List.getElem_mem _
      obtain ⟨j, h1, h2, h3⟩ := slTo_mem m x _ (Nat.le_refl _) _ hm
      rw [h3]
      exact hpart j h1 h2
  · rw [ofP_A] at hi
    rw [dot_ofRow h hi hl, ofP_B m hi, hbk]
    have h1 := (rowOk_iff _ _ _).1 (f3 i hi)
    by_cases h0 : (rwAt m i).rel = 0
    · rw [if_pos h0, Rat.add_zero]
      rw [h0] at h1
      have := h1.1 (by decide)
      have := h1.2 (by decide)
      grind
    · rw [if_neg h0]
      obtain ⟨_, r1, r2⟩ := h.row i hi
      have hs := slack_lt hi h0
      have hg : qAt (rowV (slackL m x)) ((osl m.vars).length + slackN m i) = ((rwAt m i).b.val - dotV (rwAt m i).coef x) * ((0 - (rwAt m i).rel : Int) : Rat) := by
        rw [rowV_get, ← slTo_get m x _ (Nat.le_refl _) i hi h0]
        unfold slackL
        rw [List.getD_eq_getElem?_getD, List.getElem?_append_right (by rw [List.length_map, f1]; omega), List.length_map, f1, Nat.add_sub_cancel_left, ← List.getD_eq_getElem?_getD]
      rw [hg]
      have hc : (rwAt m i).rel = -1 ∨ (rwAt m i).rel = 1 := by omega
      rcases hc with hc | hc
      · rw [hc]
        have e : ((0 - -1 : Int) : Rat) = 1 := rfl
        rw [e]; grind
      · rw [hc]
        have e : ((0 - 1 : Int) : Rat) = -1 := rfl
        rw [e]; grind

end Go.Proofs.Ytdhkdnmefeeclaa
set_option linter.unusedSimpArgs false
set_option linter.unusedVariables false
set_option maxRecDepth 100000
set_option maxHeartbeats 4000000
namespace Go.Proofs.Ytdhkdnmefeeclaa
open Go Go.Am Go.Proofs Go.RowKit Go.Off

structure FewMd (m : MD) : Prop where
  fits : FitsMd m 8 3
  vars : (osl m.vars).length ≤ 8
  rows : (osl m.rows).length ≤ 6
  names : ∀ s ∈ osl m.vars, s.length ≤ 1000000
  rnames : ∀ r ∈ osl m.rows, r.name.length ≤ 1000000
theorem fewMd_is {m : MD} (h : fewMd m = true) : FewMd m := by
  unfold fewMd at h
  simp only [Bool.and_eq_true, decide_eq_true_eq] at h
  obtain ⟨h1, h2, h3, h4, h5⟩ := h
  refine ⟨⟨fewB_fits h5, fun r hr => ?_⟩, h3, h4, fun s hs => ?_, fun r hr => ?_⟩
  · obtain ⟨i, hi, rfl⟩ := List.mem_iff_getElem.1 hr
    have := allI_at h2 (k := i) (by omega)
    unfold shortRow at this
    rw [rwAt_in hi] at this
    simp only [Bool.and_eq_true, decide_eq_true_eq] at this
    exact ⟨fewB_fits this.2.1, (fewB_fits this.2.2).2 _ (by simp [osl])⟩
  · obtain ⟨i, hi, rfl⟩ := List.mem_iff_getElem.1 hs
    have := allI_at h1 (k := i) (by omega)
    unfold shortS at this
    rw [List.getD_eq_getElem?_getD, List.getElem?_eq_getElem hi] at this
    have h6 : (osl m.vars)[i].length ≤ 20 := by simpa using this
    omega
  · obtain ⟨i, hi, rfl⟩ := List.mem_iff_getElem.1 hr
    have := allI_at h2 (k := i) (by omega)
    unfold shortRow at this
    rw [rwAt_in hi] at this
    simp only [Bool.and_eq_true, decide_eq_true_eq] at this
    omega
theorem fits_wide {l : VV} {n L : Nat} (h : FitsV l n L) (hL : 1 ≤ L) (N : Nat) : ∀ q ∈ wideQ l N, FitsQ q L := fun q hq => by
  unfold wideQ at hq
  rcases List.mem_append.1 hq with hq | hq
  · obtain ⟨r, hr, rfl⟩ := List.mem_map.1 hq
    exact (h.2 r hr).val hL
  · rw [(List.mem_replicate.1 hq).2]; exact fitsQ_zero L hL
theorem fits_ofP {m : MD} (h : RtMd m) (hf : FewMd m) : FitsP (ofP m) 14 3 := by
  have hs := slackN_le m (osl m.rows).length
  have hN : ofN m ≤ 14 := by have := hf.vars; have := hf.rows; unfold ofN; omega
  refine ⟨⟨by rw [ofP_A]; have := hf.rows; omega, fun v hv => ?_⟩, ?_, ?_⟩
  · obtain ⟨i, hi, rfl⟩ := List.mem_iff_getElem.1 hv
    have hi' : i < (osl m.rows).length := by rw [← ofP_A]; exact hi
    rw [← mAt_in hi, ofP_row m hi']
    have hr := h.row i hi'
    have hcf := (hf.fits.2 _ (List.getElem_mem hi')).1
    rw [← rwAt_in hi'] at hcf
    refine fits_rw (by rw [ofRow_len h hi']; exact hN) (fun q hq => ?_)
    unfold ofRow at hq
    split at hq
    · exact fits_wide hcf (by decide) _ q hq
    · rcases List.mem_or_eq_of_mem_set hq with hq | hq
      · exact fits_wide hcf (by decide) _ q hq
      · rw [hq]; exact (fits_int _ (by omega) (by omega)).mono (by decide)
  · refine fits_rw (by unfold ofB; rw [List.length_map, List.length_range]; have := hf.rows; omega) (fun q hq => ?_)
    unfold ofB at hq
    obtain ⟨i, hi, rfl⟩ := List.mem_map.1 hq
    rw [List.mem_range] at hi
    have := (hf.fits.2 _ (List.getElem_mem hi)).2
    rw [← rwAt_in hi] at this
    exact this.val (by decide)
  · exact fits_rw (by rw [wideQ_len _ _ (by rw [h.cost]; unfold ofN; omega)]; exact hN) (fits_wide hf.fits.1 (by decide) _)
theorem FitsP.mono {p : PB} {n L K : Nat} (h : FitsP p n L) (hk : L ≤ K) : FitsP p n K := ⟨⟨h.1.1, fun v hv => (h.1.2 v hv).monoL hk⟩, h.2.1.monoL hk, h.2.2.monoL hk⟩
theorem FitsMd.mono {m : MD} {n L K : Nat} (h : FitsMd m n L) (hk : L ≤ K) : FitsMd m n K := ⟨h.1.monoL hk, fun r hr => ⟨(h.2 r hr).1.monoL hk, (h.2 r hr).2.mono hk⟩⟩
theorem fits_back {m : MD} {y : VV} {n L : Nat} (h : FitsV y n L) (hL : 1 ≤ L) : FitsV (rowV (backL m y)) n L := by
  refine fits_rw (by unfold backL; rw [List.length_map, List.length_take]; have := h.1; omega) (fun q hq => ?_)
  unfold backL at hq
  obtain ⟨r, hr, rfl⟩ := List.mem_map.1 hq
  exact (h.2 r (List.mem_of_mem_take hr)).val hL

abbrev c16 : CC := (.seq (.reg [⟨(some 2), none, (.box 91 (.tmp 0))⟩, ⟨(some 4), none, (.mv (.const (.bool false)))⟩]) (.seq (.seq (.reg [⟨(some 8), none, (.load 3 true (.tmp 2))⟩, ⟨(some 9), none, (.callf (.func 71) [(.tmp 8)])⟩, ⟨(some 10), none, (.un .not (.tmp 9))⟩, ⟨(some 11), none, (.mv (.tmp 10))⟩, ⟨(some 12), (some (11, false)), (.mv (.tmp 1))⟩, ⟨(some 13), (some (11, false)), (.callf (.func 26) [(.tmp 12)])⟩, ⟨(some 14), (some (11, false)), (.un .not (.tmp 13))⟩, ⟨(some 15), none, (.pick (.tmp 11) (.const (.bool true)) (.tmp 14))⟩, ⟨(some 16), none, (.mv (.tmp 15))⟩, ⟨(some 17), (some (16, false)), (.load 3 true (.tmp 2))⟩, ⟨(some 18), (some (16, false)), (.callf (.func 73) [(.tmp 17)])⟩, ⟨(some 19), (some (16, false)), (.un .not (.tmp 18))⟩, ⟨(some 20), none, (.pick (.tmp 16) (.const (.bool true)) (.tmp 19))⟩]) (.cond (.tmp 20) (.seq (.reg [⟨(some 21), none, (.callf (.func 67) [])⟩, ⟨(some 4), none, (.mv (.tmp 21))⟩]) .ret) .skip)) (.seq (.reg [⟨(some 23), none, (.load 3 true (.tmp 2))⟩, ⟨(some 24), none, (.callf (.func 72) [(.tmp 23)])⟩, ⟨(some 22), none, (.mv (.tmp 24))⟩, ⟨(some 25), none, (.ext (.tmp 22) 0)⟩, ⟨(some 26), none, (.ext (.tmp 22) 1)⟩, ⟨(some 5), none, (.new 86 [(.slice none 0 0), (.slice none 0 0), (.slice none 0 0)])⟩, ⟨none, none, (.store 3 (.tmp 5) (.tmp 25))⟩, ⟨(some 6), none, (.mv (.tmp 26))⟩]) (.seq (.reg [⟨(some 27), none, (.load 3 true (.tmp 2))⟩, ⟨(some 28), none, (.mv (.tmp 1))⟩, ⟨(some 29), none, (.callf (.func 74) [(.tmp 27), (.tmp 28)])⟩, ⟨(some 7), none, (.mv (.tmp 29))⟩]) (.seq (.seq (.reg [⟨(some 30), none, (.mv (.tmp 1))⟩, ⟨(some 31), none, (.len false (.tmp 30))⟩, ⟨(some 32), none, (.faddr 0 (.tmp 2))⟩, ⟨(some 33), none, (.load 1 false (.tmp 32))⟩, ⟨(some 34), none, (.len false (.tmp 33))⟩, ⟨(some 35), none, (.bin .lss (.tmp 31) (.tmp 34))⟩]) (.cond (.tmp 35) (.seq (.reg [⟨(some 36), none, (.mv (.tmp 7))⟩, ⟨(some 37), none, (.len false (.tmp 36))⟩, ⟨(some 38), none, (.bin .eql (.tmp 37) (.const (.int .i64 (0))))⟩, ⟨(some 39), none, (.mv (.tmp 38))⟩, ⟨(some 40), (some (39, true)), (.load 3 true (.tmp 5))⟩, ⟨(some 41), (some (39, true)), (.mv (.tmp 1))⟩, ⟨(some 42), (some (39, true)), (.callf (.func 69) [(.tmp 40), (.tmp 41)])⟩, ⟨(some 43), (some (39, true)), (.un .not (.tmp 42))⟩, ⟨(some 44), none, (.pick (.tmp 39) (.tmp 43) (.const (.bool false)))⟩, ⟨(some 45), none, (.mv (.tmp 44))⟩, ⟨(some 46), (some (45, true)), (.callf (.func 67) [])⟩, ⟨(some 47), none, (.pick (.tmp 45) (.tmp 46) (.const (.bool false)))⟩, ⟨(some 4), none, (.mv (.tmp 47))⟩]) .ret) .skip)) (.seq (.seq (.reg [⟨(some 48), none, (.load 3 true (.tmp 5))⟩, ⟨(some 49), none, (.mv (.tmp 1))⟩, ⟨(some 50), none, (.callf (.func 69) [(.tmp 48), (.tmp 49)])⟩, ⟨(some 51), none, (.un .not (.tmp 50))⟩]) (.cond (.tmp 51) (.seq (.reg [⟨(some 52), none, (.mv (.tmp 7))⟩, ⟨(some 53), none, (.len false (.tmp 52))⟩, ⟨(some 54), none, (.faddr 0 (.tmp 2))⟩, ⟨(some 55), none, (.load 1 false (.tmp 54))⟩, ⟨(some 56), none, (.len false (.tmp 55))⟩, ⟨(some 57), none, (.bin .eql (.tmp 53) (.tmp 56))⟩, ⟨(some 58), none, (.mv (.tmp 57))⟩, ⟨(some 59), (some (58, true)), (.callf (.func 67) [])⟩, ⟨(some 60), none, (.pick (.tmp 58) (.tmp 59) (.const (.bool false)))⟩, ⟨(some 4), none, (.mv (.tmp 60))⟩]) .ret) .skip)) (.seq (.reg [⟨(some 61), none, (.load 3 true (.tmp 2))⟩, ⟨(some 62), none, (.mv (.tmp 7))⟩, ⟨(some 63), none, (.callf (.func 75) [(.tmp 61), (.tmp 62)])⟩, ⟨(some 64), none, (.mv (.tmp 63))⟩, ⟨(some 65), (some (64, true)), (.faddr 2 (.tmp 5))⟩, ⟨(some 66), (some (64, true)), (.load 1 false (.tmp 65))⟩, ⟨(some 67), (some (64, true)), (.mv (.tmp 1))⟩, ⟨(some 68), (some (64, true)), (.callf (.func 41) [(.tmp 66), (.tmp 67)])⟩, ⟨(some 69), (some (64, true)), (.load 3 true (.tmp 2))⟩, ⟨(some 70), (some (64, true)), (.mv (.tmp 7))⟩, ⟨(some 71), (some (64, true)), (.callf (.func 76) [(.tmp 69), (.tmp 70)])⟩, ⟨(some 72), (some (64, true)), (.callf (.func 46) [(.tmp 68), (.tmp 71)])⟩, ⟨(some 73), (some (64, true)), (.bin .eql (.tmp 72) (.const (.int .i64 (0))))⟩, ⟨(some 74), none, (.pick (.tmp 64) (.tmp 73) (.const (.bool false)))⟩, ⟨(some 75), none, (.mv (.tmp 74))⟩, ⟨(some 76), (some (75, true)), (.callf (.func 67) [])⟩, ⟨(some 77), none, (.pick (.tmp 75) (.tmp 76) (.const (.bool false)))⟩, ⟨(some 4), none, (.mv (.tmp 77))⟩]) .ret)))))))
theorem cc16 : ccode Try.prog [] (Try.f16.body.getD .skip) = some c16 := by kernel_rfl
theorem body16 : Try.f16.body = some (Try.f16.body.getD .skip) := rfl

theorem shapeDoes_C (m : MD) (y : VV) : PureC Try.prog 16 [aMd m, aV y] (.ret (aB true)) := by
  have hfm := fewMd_C m
  have hfy := few_C y
  have haw := awake11_C
  cases c1 : fewMd m with
  | false =>
    rw [c1] at hfm
    refine pureC_of (rs := [(RV.tmp 4)]) Try.func16 (fun a w => Try.call16 a w) body16 cc16 (by kernel_rfl) ?_
    rw [Try.ntmps16]
    simp only [frs, Nat.reduceAdd, Nat.reduceSub]
    repeat (first | (with_reducible first | refine Way.imp ?_ | refine blk_o rfl ?_) | ((with_reducible refine WayR.imp (fun K hK => ?_)); simp (disch := first | omega | (simp only [dls]; omega)) only [std, reduceIte, reduceCtorEq, Int.reduceToNat, Nat.reduceAdd, Nat.reduceSub, Nat.reduceMul, Int.reduceAdd, Int.reduceSub, Int.reduceMul, Int.reduceNeg, fU]; subst hK) | refine zcA (hfm) rfl rfl rfl ?_ | refine zcA (haw) rfl rfl rfl ?_)
    exact ⟨_, rfl, rfl⟩
  | true =>
  rw [c1] at hfm
  cases c2 : fewB y with
  | false =>
    rw [c2] at hfy
    refine pureC_of (rs := [(RV.tmp 4)]) Try.func16 (fun a w => Try.call16 a w) body16 cc16 (by kernel_rfl) ?_
    rw [Try.ntmps16]
    simp only [frs, Nat.reduceAdd, Nat.reduceSub]
    repeat (first | (with_reducible first | refine Way.imp ?_ | refine blk_o rfl ?_) | ((with_reducible refine WayR.imp (fun K hK => ?_)); simp (disch := first | omega | (simp only [dls]; omega)) only [std, reduceIte, reduceCtorEq, Int.reduceToNat, Nat.reduceAdd, Nat.reduceSub, Nat.reduceMul, Int.reduceAdd, Int.reduceSub, Int.reduceMul, Int.reduceNeg, fU]; subst hK) | refine zcA (hfm) rfl rfl rfl ?_ | (apply call_any_g (hfy) rfl; (case hg => simp (disch := first | omega | (simp only [dls]; omega)) only [std, reduceIte, reduceCtorEq, Int.reduceToNat, Nat.reduceAdd, Nat.reduceSub, Nat.reduceMul, Int.reduceAdd, Int.reduceSub, Int.reduceMul, Int.reduceNeg, fU]); (case hcl => (simp only [evs, St.ev, constAV, evl]; (repeat (first | exact closeAVs_nil | (apply closeAVs_cons; (first | (refine close_own3 rfl (by decide)) | (refine close_ownO rfl (by decide) ?_; assumption) | rfl)))); done)); (case hu => rfl)) | refine zcA (haw) rfl rfl rfl ?_)
    exact ⟨_, rfl, rfl⟩
  | true =>
  rw [c2] at hfy
  have fm := fewMd_is c1
  have fy := fewB_fits c2
  have hm := mright_C m fm.names fm.rnames
  cases c3 : rightMd m with
  | false =>
    rw [c3] at hm
    refine pureC_of (rs := [(RV.tmp 4)]) Try.func16 (fun a w => Try.call16 a w) body16 cc16 (by kernel_rfl) ?_
    rw [Try.ntmps16]
    simp only [frs, Nat.reduceAdd, Nat.reduceSub]
    repeat (first | (with_reducible first | refine Way.imp ?_ | refine blk_o rfl ?_) | ((with_reducible refine WayR.imp (fun K hK => ?_)); simp (disch := first | omega | (simp only [dls]; omega)) only [std, reduceIte, reduceCtorEq, Int.reduceToNat, Nat.reduceAdd, Nat.reduceSub, Nat.reduceMul, Int.reduceAdd, Int.reduceSub, Int.reduceMul, Int.reduceNeg, fU]; subst hK) | refine zcA (hfm) rfl rfl rfl ?_ | (apply call_any_g (hfy) rfl; (case hg => simp (disch := first | omega | (simp only [dls]; omega)) only [std, reduceIte, reduceCtorEq, Int.reduceToNat, Nat.reduceAdd, Nat.reduceSub, Nat.reduceMul, Int.reduceAdd, Int.reduceSub, Int.reduceMul, Int.reduceNeg, fU]); (case hcl => (simp only [evs, St.ev, constAV, evl]; (repeat (first | exact closeAVs_nil | (apply closeAVs_cons; (first | (refine close_own3 rfl (by decide)) | (refine close_ownO rfl (by decide) ?_; assumption) | rfl)))); done)); (case hu => rfl)) | (apply call_any_g (hm) rfl; (case hg => simp (disch := first | omega | (simp only [dls]; omega)) only [std, reduceIte, reduceCtorEq, Int.reduceToNat, Nat.reduceAdd, Nat.reduceSub, Nat.reduceMul, Int.reduceAdd, Int.reduceSub, Int.reduceMul, Int.reduceNeg, fU]); (case hcl => (simp only [evs, St.ev, constAV, evl]; (repeat (first | exact closeAVs_nil | (apply closeAVs_cons; (first | (refine close_own3 rfl (by decide)) | (refine close_ownO rfl (by decide) ?_; assumption) | rfl)))); done)); (case hu => rfl)) | refine zcA (haw) rfl rfl rfl ?_)
    exact ⟨_, rfl, rfl⟩
  | true =>
  rw [c3] at hm
  have rt := rt_of c3
  have hv8 := fm.vars
  have hy8 := fy.1
  have hof := sof_yes m 8 3 fm.fits (by decide) (by decide) (by decide) fm.names fm.rnames c3
  have fP := fits_ofP rt fm
  have fy14 : FitsV y 14 3 := ⟨by omega, fy.2⟩
  have hdo := does_C (ofP m) y 14 3 fP fy14 (by decide) (by decide) (by decide)
  have hvN : (osl m.vars).length ≤ ofN m := by unfold ofN; omega
  by_cases c4 : (osl y).length < (osl m.vars).length
  · have hb := back_no m y c4
    have hdf : doesB (ofP m) y = false := by
      cases h : doesB (ofP m) y with
      | false => rfl
      | true =>
        have := ((does_iff _ _).1 h).2.1
        rw [ofP_Cl rt] at this
        omega
    rw [hdf] at hdo
    clear fP
    generalize ofP m = P at *
    refine pureC_of (rs := [(RV.tmp 4)]) Try.func16 (fun a w => Try.call16 a w) body16 cc16 (by kernel_rfl) ?_
    rw [Try.ntmps16]
    simp only [frs, Nat.reduceAdd, Nat.reduceSub]
    repeat (first | (with_reducible first | refine Way.imp ?_ | refine blk_o rfl ?_) | ((with_reducible refine WayR.imp (fun K hK => ?_)); simp (disch := first | omega | (simp only [dls]; omega)) only [std, reduceIte, reduceCtorEq, Int.reduceToNat, Nat.reduceAdd, Nat.reduceSub, Nat.reduceMul, Int.reduceAdd, Int.reduceSub, Int.reduceMul, Int.reduceNeg, fU]; subst hK) | refine zcA (hfm) rfl rfl rfl ?_ | (apply call_any_g (hfy) rfl; (case hg => simp (disch := first | omega | (simp only [dls]; omega)) only [std, reduceIte, reduceCtorEq, Int.reduceToNat, Nat.reduceAdd, Nat.reduceSub, Nat.reduceMul, Int.reduceAdd, Int.reduceSub, Int.reduceMul, Int.reduceNeg, fU]); (case hcl => (simp only [evs, St.ev, constAV, evl]; (repeat (first | exact closeAVs_nil | (apply closeAVs_cons; (first | (refine close_own3 rfl (by decide)) | (refine close_ownO rfl (by decide) ?_; assumption) | rfl)))); done)); (case hu => rfl)) | (apply call_any_g (hm) rfl; (case hg => simp (disch := first | omega | (simp only [dls]; omega)) only [std, reduceIte, reduceCtorEq, Int.reduceToNat, Nat.reduceAdd, Nat.reduceSub, Nat.reduceMul, Int.reduceAdd, Int.reduceSub, Int.reduceMul, Int.reduceNeg, fU]); (case hcl => (simp only [evs, St.ev, constAV, evl]; (repeat (first | exact closeAVs_nil | (apply closeAVs_cons; (first | (refine close_own3 rfl (by decide)) | (refine close_ownO rfl (by decide) ?_; assumption) | rfl)))); done)); (case hu => rfl)) | refine zcA (hof) rfl rfl rfl ?_ | refine zcA (hb) rfl rfl rfl ?_ | (apply call_any_g (hdo) rfl; (case hg => simp (disch := first | omega | (simp only [dls]; omega)) only [std, reduceIte, reduceCtorEq, Int.reduceToNat, Nat.reduceAdd, Nat.reduceSub, Nat.reduceMul, Int.reduceAdd, Int.reduceSub, Int.reduceMul, Int.reduceNeg, fU]); (case hcl => (simp only [evs, St.ev, constAV, evl]; (repeat (first | exact closeAVs_nil | (apply closeAVs_cons; (first | (refine close_own3 rfl (by decide)) | (refine close_ownO rfl (by decide) ?_; assumption) | rfl)))); done)); (case hu => rfl)) | (apply call_any_g (haw) rfl; (case hg => simp (disch := first | omega | (simp only [dls]; omega)) only [std, reduceIte, reduceCtorEq, Int.reduceToNat, Nat.reduceAdd, Nat.reduceSub, Nat.reduceMul, Int.reduceAdd, Int.reduceSub, Int.reduceMul, Int.reduceNeg, fU]); (case hcl => (simp only [evs, St.ev, constAV, evl]; (repeat (first | exact closeAVs_nil | (apply closeAVs_cons; (first | (refine close_own3 rfl (by decide)) | (refine close_ownO rfl (by decide) ?_; assumption) | rfl)))); done)); (case hu => rfl)))
    exact ⟨_, rfl, rfl⟩
  · have hb := back_yes m y 8 3 fy (by decide) (by decide) (by decide) (by omega)
    have hbl : (osl (rowV (backL m y))).length = (osl m.vars).length := by rw [rowV_len, back_len (by omega)]
    cases c5 : doesB (ofP m) y with
    | false =>
      rw [c5] at hdo
      clear fP
      generalize ofP m = P at *
      generalize rowV (backL m y) = x at *
      refine pureC_of (rs := [(RV.tmp 4)]) Try.func16 (fun a w => Try.call16 a w) body16 cc16 (by kernel_rfl) ?_
      rw [Try.ntmps16]
      simp only [frs, Nat.reduceAdd, Nat.reduceSub]
      repeat (first | (with_reducible first | refine Way.imp ?_ | refine blk_o rfl ?_) | ((with_reducible refine WayR.imp (fun K hK => ?_)); simp (disch := first | omega | (simp only [dls]; omega)) only [std, reduceIte, reduceCtorEq, Int.reduceToNat, Nat.reduceAdd, Nat.reduceSub, Nat.reduceMul, Int.reduceAdd, Int.reduceSub, Int.reduceMul, Int.reduceNeg, fU, hbl]; subst hK) | refine zcA (hfm) rfl rfl rfl ?_ | (apply call_any_g (hfy) rfl; (case hg => simp (disch := first | omega | (simp only [dls]; omega)) only [std, reduceIte, reduceCtorEq, Int.reduceToNat, Nat.reduceAdd, Nat.reduceSub, Nat.reduceMul, Int.reduceAdd, Int.reduceSub, Int.reduceMul, Int.reduceNeg, fU, hbl]); (case hcl => (simp only [evs, St.ev, constAV, evl]; (repeat (first | exact closeAVs_nil | (apply closeAVs_cons; (first | (refine close_own3 rfl (by decide)) | (refine close_ownO rfl (by decide) ?_; assumption) | rfl)))); done)); (case hu => rfl)) | (apply call_any_g (hm) rfl; (case hg => simp (disch := first | omega | (simp only [dls]; omega)) only [std, reduceIte, reduceCtorEq, Int.reduceToNat, Nat.reduceAdd, Nat.reduceSub, Nat.reduceMul, Int.reduceAdd, Int.reduceSub, Int.reduceMul, Int.reduceNeg, fU, hbl]); (case hcl => (simp only [evs, St.ev, constAV, evl]; (repeat (first | exact closeAVs_nil | (apply closeAVs_cons; (first | (refine close_own3 rfl (by decide)) | (refine close_ownO rfl (by decide) ?_; assumption) | rfl)))); done)); (case hu => rfl)) | refine zcA (hof) rfl rfl rfl ?_ | refine zcA (hb) rfl rfl rfl ?_ | refine zcA (hdo) rfl rfl rfl ?_ | (apply call_any_g (haw) rfl; (case hg => simp (disch := first | omega | (simp only [dls]; omega)) only [std, reduceIte, reduceCtorEq, Int.reduceToNat, Nat.reduceAdd, Nat.reduceSub, Nat.reduceMul, Int.reduceAdd, Int.reduceSub, Int.reduceMul, Int.reduceNeg, fU, hbl]); (case hcl => (simp only [evs, St.ev, constAV, evl]; (repeat (first | exact closeAVs_nil | (apply closeAVs_cons; (first | (refine close_own3 rfl (by decide)) | (refine close_ownO rfl (by decide) ?_; assumption) | rfl)))); done)); (case hu => rfl)))
      exact ⟨_, rfl, rfl⟩
    | true =>
      rw [c5] at hdo
      have fb := fits_back (m := m) fy (by decide)
      have hfe := feas_C m (rowV (backL m y)) 8 3 fm.fits fb (by decide) (by decide) (by decide) (by have := fm.rows; omega)
      rw [does_feas rt c5] at hfe
      have hyN := ((does_iff _ _).1 c5).2.1
      rw [ofP_Cl rt] at hyN
      have hd1 := dot_C (ofP m).C y 14 3 fP.2.2 fy14 (by decide) (by decide) (by decide)
      have hva := value_C m (rowV (backL m y)) 8 3 fm.fits.1 fb (by decide) (by decide) (by decide)
      rw [dot_ofC rt hyN] at hd1
      have hfd := fits_dot fm.fits.1 fb (by decide)
      have hcm := rcompare_C (rawQ (dotV m.cost (rowV (backL m y)))) (rawQ (dotV m.cost (rowV (backL m y)))) ((fits_rawQ hfd).mono (by decide)) ((fits_rawQ hfd).mono (by decide))
      rw [cmp_eq] at hcm
      clear fP
      generalize rawQ (dotV m.cost (rowV (backL m y))) = q at *
      generalize ofP m = P at *
      generalize rowV (backL m y) = x at *
      refine pureC_of (rs := [(RV.tmp 4)]) Try.func16 (fun a w => Try.call16 a w) body16 cc16 (by kernel_rfl) ?_
      rw [Try.ntmps16]
      simp only [frs, Nat.reduceAdd, Nat.reduceSub]
      repeat (first | (with_reducible first | refine Way.imp ?_ | refine blk_o rfl ?_) | ((with_reducible refine WayR.imp (fun K hK => ?_)); simp (disch := first | omega | (simp only [dls]; omega)) only [std, reduceIte, reduceCtorEq, Int.reduceToNat, Nat.reduceAdd, Nat.reduceSub, Nat.reduceMul, Int.reduceAdd, Int.reduceSub, Int.reduceMul, Int.reduceNeg, fU, hbl]; subst hK) | refine zcA (hfm) rfl rfl rfl ?_ | (apply call_any_g (hfy) rfl; (case hg => simp (disch := first | omega | (simp only [dls]; omega)) only [std, reduceIte, reduceCtorEq, Int.reduceToNat, Nat.reduceAdd, Nat.reduceSub, Nat.reduceMul, Int.reduceAdd, Int.reduceSub, Int.reduceMul, Int.reduceNeg, fU, hbl]); (case hcl => (simp only [evs, St.ev, constAV, evl]; (repeat (first | exact closeAVs_nil | (apply closeAVs_cons; (first | (refine close_own3 rfl (by decide)) | (refine close_ownO rfl (by decide) ?_; assumption) | rfl)))); done)); (case hu => rfl)) | (apply call_any_g (hm) rfl; (case hg => simp (disch := first | omega | (simp only [dls]; omega)) only [std, reduceIte, reduceCtorEq, Int.reduceToNat, Nat.reduceAdd, Nat.reduceSub, Nat.reduceMul, Int.reduceAdd, Int.reduceSub, Int.reduceMul, Int.reduceNeg, fU, hbl]); (case hcl => (simp only [evs, St.ev, constAV, evl]; (repeat (first | exact closeAVs_nil | (apply closeAVs_cons; (first | (refine close_own3 rfl (by decide)) | (refine close_ownO rfl (by decide) ?_; assumption) | rfl)))); done)); (case hu => rfl)) | refine zcA (hof) rfl rfl rfl ?_ | refine zcA (hb) rfl rfl rfl ?_ | refine zcA (hdo) rfl rfl rfl ?_ | refine zcA (hfe) rfl rfl rfl ?_ | (apply call_any_g (hd1) rfl; (case hg => simp (disch := first | omega | (simp only [dls]; omega)) only [std, reduceIte, reduceCtorEq, Int.reduceToNat, Nat.reduceAdd, Nat.reduceSub, Nat.reduceMul, Int.reduceAdd, Int.reduceSub, Int.reduceMul, Int.reduceNeg, fU, hbl]); (case hcl => (simp only [evs, St.ev, constAV, evl]; (repeat (first | exact closeAVs_nil | (apply closeAVs_cons; (first | (refine close_own3 rfl (by decide)) | (refine close_ownO rfl (by decide) ?_; assumption) | rfl)))); done)); (case hu => rfl)) | (apply call_any_g (hva) rfl; (case hg => simp (disch := first | omega | (simp only [dls]; omega)) only [std, reduceIte, reduceCtorEq, Int.reduceToNat, Nat.reduceAdd, Nat.reduceSub, Nat.reduceMul, Int.reduceAdd, Int.reduceSub, Int.reduceMul, Int.reduceNeg, fU, hbl]); (case hcl => (simp only [evs, St.ev, constAV, evl]; (repeat (first | exact closeAVs_nil | (apply closeAVs_cons; (first | (refine close_own3 rfl (by decide)) | (refine close_ownO rfl (by decide) ?_; assumption) | rfl)))); done)); (case hu => rfl)) | (apply call_any_g (hcm) rfl; (case hg => simp (disch := first | omega | (simp only [dls]; omega)) only [std, reduceIte, reduceCtorEq, Int.reduceToNat, Nat.reduceAdd, Nat.reduceSub, Nat.reduceMul, Int.reduceAdd, Int.reduceSub, Int.reduceMul, Int.reduceNeg, fU, hbl]); (case hcl => (simp only [evs, St.ev, constAV, evl]; (repeat (first | exact closeAVs_nil | (apply closeAVs_cons; (first | (refine close_own3 rfl (by decide)) | (refine close_ownO rfl (by decide) ?_; assumption) | rfl)))); done)); (case hu => rfl)) | (apply call_any_g (haw) rfl; (case hg => simp (disch := first | omega | (simp only [dls]; omega)) only [std, reduceIte, reduceCtorEq, Int.reduceToNat, Nat.reduceAdd, Nat.reduceSub, Nat.reduceMul, Int.reduceAdd, Int.reduceSub, Int.reduceMul, Int.reduceNeg, fU, hbl]); (case hcl => (simp only [evs, St.ev, constAV, evl]; (repeat (first | exact closeAVs_nil | (apply closeAVs_cons; (first | (refine close_own3 rfl (by decide)) | (refine close_ownO rfl (by decide) ?_; assumption) | rfl)))); done)); (case hu => rfl)))
      exact ⟨_, rfl, rfl⟩

end Go.Proofs.Ytdhkdnmefeeclaa
