/- The choice that is worth most, told piece by piece. -/
import Derived.Test.YtdhkdnmefeeclaaB0
set_option linter.unusedSimpArgs false
set_option linter.unusedVariables false
set_option linter.unnecessarySimpa false
namespace Go.Off

def stepB (W : Nat) (q : Rat) (b : Nat → Rat) (w : Nat) : Rat := if W ≤ w ∧ b w < b (w - W) + q then b (w - W) + q else b w
def tkStep (W : Nat) (q : Rat) (b : Nat → Rat) (w : Nat) : Bool := decide (W ≤ w ∧ b w < b (w - W) + q)
def bestF (W : Nat → Nat) (q : Nat → Rat) (ps : List Nat) : Nat → Rat := ps.foldl (fun b k => stepB (W k) (q k) b) (fun _ => 0)
theorem bestF_nil (W : Nat → Nat) (q : Nat → Rat) : bestF W q [] = fun _ => 0 := rfl
theorem bestF_snoc (W : Nat → Nat) (q : Nat → Rat) (ps : List Nat) (k : Nat) : bestF W q (ps ++ [k]) = stepB (W k) (q k) (bestF W q ps) := by unfold bestF; rw [List.foldl_append]; rfl
/-- What stands in the row of the piece at a place. -/
def takeF (W : Nat → Nat) (q : Nat → Rat) (ps : List Nat) (i : Nat) : Nat → Bool := tkStep (W (ps.getD i 0)) (q (ps.getD i 0)) (bestF W q (ps.take i))
def takeL (W : Nat → Nat) (q : Nat → Rat) (n : Nat) (ps : List Nat) : List (List Bool) := (List.range ps.length).map fun i => (List.range n).map (takeF W q ps i)
theorem takeL_len (W : Nat → Nat) (q : Nat → Rat) (n : Nat) (ps : List Nat) : (takeL W q n ps).length = ps.length := by unfold takeL; rw [List.length_map, List.length_range]
theorem takeL_snoc (W : Nat → Nat) (q : Nat → Rat) (n : Nat) (ps : List Nat) (k : Nat) : takeL W q n (ps ++ [k]) = takeL W q n ps ++ [(List.range n).map (tkStep (W k) (q k) (bestF W q ps))] := by
  unfold takeL
  rw [List.length_append, List.length_cons, List.length_nil, Nat.zero_add, List.range_succ, List.map_append]
  congr 1
  · refine List.map_congr_left (fun i hi => ?_)
    have hi : i < ps.length := List.mem_range.1 hi
    have h1 : (ps ++ [k]).getD i 0 = ps.getD i 0 := by rw [List.getD_eq_getElem?_getD, List.getD_eq_getElem?_getD, List.getElem?_append_left hi]
    have h2 : (ps ++ [k]).take i = ps.take i := by rw [List.take_append_of_le_length (by omega)]
    unfold takeF
    rw [h1, h2]
  · have h1 : (ps ++ [k]).getD ps.length 0 = k := by simp [List.getD_eq_getElem?_getD]
    have h2 : (ps ++ [k]).take ps.length = ps := by simp
    simp only [List.map_cons, List.map_nil]
    unfold takeF
    rw [h1, h2]

/-- How it is traced back: what is left of the roll, and how many of each are taken, behind the last m pieces. -/
def backF (W : Nat → Nat) (q : Nat → Rat) (ps : List Nat) (R : Nat) : Nat → Nat × (Nat → Nat)
  | 0 => (R, fun _ => 0)
  | m + 1 =>
    let p := backF W q ps R m
    if takeF W q ps (ps.length - 1 - m) p.1 then (p.1 - W (ps.getD (ps.length - 1 - m) 0), fun k => if k = ps.getD (ps.length - 1 - m) 0 then p.2 k + 1 else p.2 k) else p
theorem backF_succ (W : Nat → Nat) (q : Nat → Rat) (ps : List Nat) (R m : Nat) : backF W q ps R (m + 1) =
    if takeF W q ps (ps.length - 1 - m) (backF W q ps R m).1 then ((backF W q ps R m).1 - W (ps.getD (ps.length - 1 - m) 0), fun k => if k = ps.getD (ps.length - 1 - m) 0 then (backF W q ps R m).2 k + 1 else (backF W q ps R m).2 k) else backF W q ps R m := rfl
theorem backF_le (W : Nat → Nat) (q : Nat → Rat) (ps : List Nat) (R m : Nat) : (backF W q ps R m).1 ≤ R := by
  induction m with
  | zero => exact Nat.le_refl _
  | succ m ih =>
    rw [backF_succ]
    split
    · dsimp only; omega
    · exact ih
/-- How many of each were taken so far: no more than there are pieces. -/
theorem backF_cnt (W : Nat → Nat) (q : Nat → Rat) (ps : List Nat) (R m k : Nat) : (backF W q ps R m).2 k ≤ m := by
  induction m with
  | zero => exact Nat.le_refl _
  | succ m ih =>
    rw [backF_succ]
    split
    · dsimp only; split <;> omega
    · omega
/-- How many of each, as a row. -/
def cntL (n : Nat) (f : Nat → Nat) : List Int := (List.range n).map fun k => ((f k : Nat) : Int)
theorem cntL_len (n : Nat) (f : Nat → Nat) : (cntL n f).length = n := by unfold cntL; rw [List.length_map, List.length_range]
theorem cntL_at {n : Nat} {f : Nat → Nat} {k : Nat} (h : k < (cntL n f).length) : (cntL n f)[k] = ((f k : Nat) : Int) := by simp [cntL]
theorem cntL_set (n : Nat) (f : Nat → Nat) (j : Nat) : (cntL n f).set j (((f j : Nat) : Int) + 1) = cntL n (fun k => if k = j then f k + 1 else f k) := by
  apply List.ext_getElem
  · rw [List.length_set, cntL_len, cntL_len]
  · intro i h1 h2
    rw [cntL_at h2, List.getElem_set]
    have hi : i < (cntL n f).length := by rw [cntL_len] at h2 ⊢; exact h2
    by_cases e : j = i
    · subst e; rw [if_pos rfl, if_pos rfl]; omega
    · rw [if_neg e, if_neg (fun h => e h.symm), cntL_at hi]
theorem cntL_zero (n : Nat) : cntL n (fun _ => 0) = List.replicate n 0 := by
  apply List.ext_getElem
  · rw [cntL_len, List.length_replicate]
  · intro i h1 h2; rw [cntL_at h1, List.getElem_replicate]; rfl

end Go.Off
namespace Go.Off

def sumN : Nat → (Nat → Nat) → Nat
  | 0, _ => 0
  | n + 1, f => sumN n f + f n
theorem sumN_congr {n : Nat} {f g : Nat → Nat} (h : ∀ i, i < n → f i = g i) : sumN n f = sumN n g := by
  induction n with
  | zero => rfl
  | succ n ih => unfold sumN; rw [ih (fun i hi => h i (by omega)), h n (by omega)]
theorem sumN_zero (n : Nat) : sumN n (fun _ => 0) = 0 := by
  induction n with
  | zero => rfl
  | succ n ih => unfold sumN; rw [ih]; rfl
theorem sumN_bump {n j : Nat} (f : Nat → Nat) (W : Nat → Nat) (h : j < n) : sumN n (fun k => (if k = j then f k + 1 else f k) * W k) = sumN n (fun k => f k * W k) + W j := by
  induction n with
  | zero => omega
  | succ n ih =>
    unfold sumN
    by_cases e : j = n
    · subst e
      have : sumN j (fun k => (if k = j then f k + 1 else f k) * W k) = sumN j (fun k => f k * W k) := sumN_congr (fun i hi => by rw [if_neg (by omega)])
      rw [this]; dsimp only; rw [if_pos rfl, Nat.add_mul]; omega
    · rw [ih (by omega)]; dsimp only; rw [if_neg (show ¬ n = j by omega)]; omega
theorem sumR_bump {n j : Nat} (f : Nat → Nat) (q : Nat → Rat) (h : j < n) : sumR n (fun k => q k * (((if k = j then f k + 1 else f k) : Nat) : Rat)) = sumR n (fun k => q k * ((f k : Nat) : Rat)) + q j := by
  induction n with
  | zero => omega
  | succ n ih =>
    unfold sumR
    by_cases e : j = n
    · subst e
      have : sumR j (fun k => q k * (((if k = j then f k + 1 else f k) : Nat) : Rat)) = sumR j (fun k => q k * ((f k : Nat) : Rat)) := sumR_congr (fun i hi => by rw [if_neg (by omega)])
      rw [this]; dsimp only; rw [if_pos rfl, Rat.natCast_add, show ((1 : Nat) : Rat) = 1 from rfl]; grind
    · rw [ih (by omega)]; dsimp only; rw [if_neg (show ¬ n = j by omega)]; grind

/-! ### nothing is worth more -/

theorem stepB_ge (W : Nat) (q : Rat) (b : Nat → Rat) (w : Nat) : b w ≤ stepB W q b w := by
  unfold stepB
  split
  · rename_i h; exact Rat.le_of_lt h.2
  · exact Rat.le_refl
theorem stepB_take (W : Nat) (q : Rat) (b : Nat → Rat) (w : Nat) (h : W ≤ w) : b (w - W) + q ≤ stepB W q b w := by
  unfold stepB
  split
  · exact Rat.le_refl
  · rename_i h2; exact Rat.not_lt.1 (fun h3 => h2 ⟨h, h3⟩)
theorem stepB_le (W : Nat) (q : Rat) (b : Nat → Rat) (w : Nat) (x : Rat) (h1 : b w ≤ x) (h2 : W ≤ w → b (w - W) + q ≤ x) : stepB W q b w ≤ x := by
  unfold stepB
  split
  · rename_i h; exact h2 h.1
  · exact h1
theorem stepB_mono {W : Nat} {q : Rat} {b : Nat → Rat} (hb : ∀ v w, v ≤ w → b v ≤ b w) (v w : Nat) (h : v ≤ w) : stepB W q b v ≤ stepB W q b w := by
  refine stepB_le _ _ _ _ _ (Rat.le_trans (hb v w h) (stepB_ge _ _ _ _)) (fun hW => ?_)
  have h1 := hb (v - W) (w - W) (by omega)
  have h2 := stepB_take W q b w (by omega)
  grind
theorem bestF_mono (W : Nat → Nat) (q : Nat → Rat) (ps : List Nat) : ∀ v w, v ≤ w → bestF W q ps v ≤ bestF W q ps w := by
  have key : ∀ m, m ≤ ps.length → ∀ v w, v ≤ w → bestF W q (ps.take m) v ≤ bestF W q (ps.take m) w := by
    intro m
    induction m with
    | zero => intro _ v w _; exact Rat.le_refl
    | succ m ih =>
      intro hm v w h
      rw [List.take_succ_eq_append_getElem (by omega), bestF_snoc]
      exact stepB_mono (ih (by omega)) v w h
  have := key ps.length (Nat.le_refl _)
  rwa [List.take_length] at this
theorem bestF_rep (W : Nat → Nat) (q : Nat → Rat) (ps : List Nat) (k c j w : Nat) (hj : j ≤ c) (hw : j * W k ≤ w) : bestF W q ps (w - j * W k) + q k * ((j : Nat) : Rat) ≤ bestF W q (ps ++ List.replicate c k) w := by
  induction c generalizing j w with
  | zero =>
    obtain rfl : j = 0 := by omega
    rw [List.replicate_zero, List.append_nil, Nat.zero_mul, Nat.sub_zero]
    have : q k * ((0 : Nat) : Rat) = 0 := by rw [show ((0 : Nat) : Rat) = 0 from rfl, Rat.mul_zero]
    rw [this, Rat.add_zero]
    exact Rat.le_refl
  | succ c ih =>
    rw [List.replicate_succ', ← List.append_assoc, bestF_snoc]
    by_cases e : j = c + 1
    · subst e
      have hw2 : (c + 1) * W k = c * W k + W k := by rw [Nat.add_mul, Nat.one_mul]
      have h1 := ih c (w - W k) (Nat.le_refl _) (by omega)
      have h2 := stepB_take (W k) (q k) (bestF W q (ps ++ List.replicate c k)) w (by omega)
      rw [hw2, show w - (c * W k + W k) = w - W k - c * W k by omega, Rat.natCast_add]
      have : ((1 : Nat) : Rat) = 1 := rfl
      rw [this]
      grind
    · have h1 := ih j w (by omega) hw
      have h2 := stepB_ge (W k) (q k) (bestF W q (ps ++ List.replicate c k)) w
      exact Rat.le_trans h1 h2

/-- Pieces: so many of each whose worth is above 0. -/
def pieceL (need : Nat → Nat) (pos : Nat → Bool) : Nat → List Nat
  | 0 => []
  | k + 1 => pieceL need pos k ++ List.replicate (if pos k then need k else 0) k
theorem best_upper (W : Nat → Nat) (q : Nat → Rat) (need : Nat → Nat) (pos : Nat → Bool) (hpos : ∀ k, pos k = true ↔ 0 < q k) (n : Nat → Nat) :
    ∀ K w, (∀ k, k < K → n k ≤ need k) → sumN K (fun k => n k * W k) ≤ w → sumR K (fun k => q k * ((n k : Nat) : Rat)) ≤ bestF W q (pieceL need pos K) w
  | 0, w, _, _ => Rat.le_refl
  | K + 1, w, hn, hw => by
    change sumN K (fun k => n k * W k) + n K * W K ≤ w at hw
    have ih := fun v (h : sumN K (fun k => n k * W k) ≤ v) => best_upper W q need pos hpos n K v (fun k hk => hn k (by omega)) h
    show sumR K (fun k => q k * ((n k : Nat) : Rat)) + q K * ((n K : Nat) : Rat) ≤ bestF W q (pieceL need pos K ++ List.replicate (if pos K then need K else 0) K) w
    cases hp : pos K with
    | true =>
      rw [if_pos rfl]
      have h1 := bestF_rep W q (pieceL need pos K) K (need K) (n K) w (hn K (by omega)) (by omega)
      have h2 := ih (w - n K * W K) (by omega)
      grind
    | false =>
      rw [if_neg (by simp), List.replicate_zero, List.append_nil]
      have hq : q K ≤ 0 := Rat.not_lt.1 (fun h => by have := (hpos K).2 h; rw [hp] at this; cases this)
      have hc : (0 : Rat) ≤ ((n K : Nat) : Rat) := by exact_mod_cast Nat.zero_le _
      have h3 : q K * ((n K : Nat) : Rat) ≤ 0 := by
        have := Rat.mul_le_mul_of_nonneg_right hq hc
        rwa [Rat.zero_mul] at this
      have h2 := ih w (by omega)
      grind

/-! ### what is told is worth as much -/

theorem back_inv (W : Nat → Nat) (q : Nat → Rat) (ps : List Nat) (R N : Nat) (hN : ∀ k ∈ ps, k < N) : ∀ m, m ≤ ps.length →
    bestF W q (ps.take (ps.length - m)) (backF W q ps R m).1 + sumR N (fun k => q k * (((backF W q ps R m).2 k : Nat) : Rat)) = bestF W q ps R ∧
    (backF W q ps R m).1 + sumN N (fun k => (backF W q ps R m).2 k * W k) = R ∧ ∀ k, (backF W q ps R m).2 k + (ps.take (ps.length - m)).count k ≤ ps.count k := by
  intro m
  induction m with
  | zero =>
    intro _
    rw [Nat.sub_zero, List.take_length]
    have h1 : sumR N (fun k => q k * (((backF W q ps R 0).2 k : Nat) : Rat)) = 0 := by
      refine sumR_zero' (fun i _ => ?_)
      show q i * ((0 : Nat) : Rat) = 0
      rw [show ((0 : Nat) : Rat) = 0 from rfl, Rat.mul_zero]
    have h2 : sumN N (fun k => (backF W q ps R 0).2 k * W k) = 0 := by
      have : sumN N (fun k => (backF W q ps R 0).2 k * W k) = sumN N (fun _ => 0) := sumN_congr (fun i _ => Nat.zero_mul _)
      rw [this, sumN_zero]
    rw [h1, h2]
    refine ⟨?_, rfl, fun k => ?_⟩
    · rw [Rat.add_zero]; rfl
    · show 0 + _ ≤ _; omega
  | succ m ih =>
    intro hm
    obtain ⟨i1, i2, i3⟩ := ih (by omega)
    have hs := backF_succ W q ps R m
    obtain ⟨ix, hix⟩ : ∃ ix, ix = ps.length - 1 - m := ⟨_, rfl⟩
    have hixl : ix < ps.length := by omega
    have e1 : ps.length - m = ix + 1 := by omega
    have e2 : ps.length - (m + 1) = ix := by omega
    have hg : ps.getD ix 0 = ps[ix] := by rw [List.getD_eq_getElem?_getD, List.getElem?_eq_getElem hixl]; rfl
    have ht : ps.take (ix + 1) = ps.take ix ++ [ps[ix]] := by rw [List.take_succ_eq_append_getElem hixl]
    rw [e1, ht] at i1 i3
    rw [bestF_snoc] at i1
    rw [e2]
    rw [← hix, hg] at hs
    have hkN := hN _ (List.getElem_mem hixl)
    generalize ps[ix] = p at *
    generalize hB : backF W q ps R m = B at *
    have htk : takeF W q ps ix B.1 = decide (W p ≤ B.1 ∧ bestF W q (ps.take ix) B.1 < bestF W q (ps.take ix) (B.1 - W p) + q p) := by
      unfold takeF tkStep; rw [hg]
    by_cases hc : W p ≤ B.1 ∧ bestF W q (ps.take ix) B.1 < bestF W q (ps.take ix) (B.1 - W p) + q p
    · rw [htk, decide_eq_true hc, if_pos rfl] at hs
      rw [hs]
      dsimp only
      unfold stepB at i1
      rw [if_pos hc] at i1
      rw [sumR_bump B.2 q hkN, sumN_bump B.2 W hkN]
      refine ⟨by grind, by omega, fun k => ?_⟩
      have := i3 k
      rw [List.count_append, List.count_singleton] at this
      by_cases e : k = p
      · subst e; rw [if_pos rfl]; simp at this; omega
      · rw [if_neg e]; omega
    · rw [htk, decide_eq_false hc, if_neg (by simp)] at hs
      rw [hs]
      unfold stepB at i1
      rw [if_neg hc] at i1
      refine ⟨i1, i2, fun k => ?_⟩
      have := i3 k
      rw [List.count_append] at this
      omega

theorem back_done (W : Nat → Nat) (q : Nat → Rat) (ps : List Nat) (R N : Nat) (hN : ∀ k ∈ ps, k < N) :
    sumR N (fun k => q k * (((backF W q ps R ps.length).2 k : Nat) : Rat)) = bestF W q ps R ∧ sumN N (fun k => (backF W q ps R ps.length).2 k * W k) ≤ R ∧ ∀ k, (backF W q ps R ps.length).2 k ≤ ps.count k := by
  obtain ⟨h1, h2, h3⟩ := back_inv W q ps R N hN ps.length (Nat.le_refl _)
  rw [Nat.sub_self, List.take_zero, bestF_nil] at h1
  refine ⟨by rw [Rat.zero_add] at h1; exact h1, by omega, fun k => by have := h3 k; omega⟩

theorem pieceL_count (need : Nat → Nat) (pos : Nat → Bool) (K k : Nat) : (pieceL need pos K).count k = if k < K ∧ pos k = true then need k else 0 := by
  induction K with
  | zero => rw [if_neg (by omega)]; rfl
  | succ K ih =>
    show (pieceL need pos K ++ List.replicate (if pos K then need K else 0) K).count k = _
    rw [List.count_append, ih, List.count_replicate]
    by_cases e : k = K
    · subst e
      rw [if_neg (by omega)]
      simp
    · have e2 : (K == k) = false := by simp; omega
      rw [e2, if_neg (show ¬ (false = true) by simp), Nat.add_zero]
      have e3 : (k < K ∧ pos k = true) ↔ (k < K + 1 ∧ pos k = true) := by
        constructor
        · rintro ⟨h1, h2⟩; exact ⟨by omega, h2⟩
        · rintro ⟨h1, h2⟩; exact ⟨by omega, h2⟩
      by_cases h : k < K ∧ pos k = true
      · rw [if_pos h, if_pos (e3.1 h)]
      · rw [if_neg h, if_neg (fun h2 => h (e3.2 h2))]

/-! ### the document's answer: all choices -/

/-- Of one item up to so many, and what the others bring in what is left. -/
def refIn (f : Int → Rat) (W : Int) (q : Rat) (left : Int) : Nat → Rat
  | 0 => f left
  | n + 1 => if refIn f W q left n < q * (((n + 1 : Nat) : Nat) : Rat) + f (left - ((n + 1 : Nat) : Int) * W) then q * (((n + 1 : Nat) : Nat) : Rat) + f (left - ((n + 1 : Nat) : Int) * W) else refIn f W q left n
/-- How many of it there are room and need for. -/
def roomN (W need left : Int) : Nat := min need.toNat (left / W).toNat
/-- Of the last m of N items. -/
def refD (N : Nat) (W need : Nat → Int) (q : Nat → Rat) : Nat → Int → Rat
  | 0, _ => 0
  | m + 1, left => refIn (refD N W need q m) (W (N - (m + 1))) (q (N - (m + 1))) left (roomN (W (N - (m + 1))) (need (N - (m + 1))) left)

theorem refIn_ge (f : Int → Rat) (W : Int) (q : Rat) (left : Int) (c j : Nat) (h : j ≤ c) : q * ((j : Nat) : Rat) + f (left - (j : Int) * W) ≤ refIn f W q left c := by
  induction c with
  | zero =>
    obtain rfl : j = 0 := by omega
    have e1 : q * ((0 : Nat) : Rat) = 0 := by rw [show ((0 : Nat) : Rat) = 0 from rfl, Rat.mul_zero]
    have e2 : left - ((0 : Nat) : Int) * W = left := by rw [show ((0 : Nat) : Int) = 0 from rfl, Int.zero_mul]; omega
    rw [e1, e2, Rat.zero_add]
    exact Rat.le_refl
  | succ c ih =>
    unfold refIn
    by_cases e : j = c + 1
    · subst e
      split
      · exact Rat.le_refl
      · rename_i hh; exact Rat.not_lt.1 hh
    · have := ih (by omega)
      split
      · rename_i hh; exact Rat.le_trans this (Rat.le_of_lt hh)
      · exact this
theorem refIn_eq (f : Int → Rat) (W : Int) (q : Rat) (left : Int) (c : Nat) : ∃ j, j ≤ c ∧ refIn f W q left c = q * ((j : Nat) : Rat) + f (left - (j : Int) * W) := by
  induction c with
  | zero =>
    refine ⟨0, Nat.le_refl _, ?_⟩
    have e1 : q * ((0 : Nat) : Rat) = 0 := by rw [show ((0 : Nat) : Rat) = 0 from rfl, Rat.mul_zero]
    have e2 : left - ((0 : Nat) : Int) * W = left := by rw [show ((0 : Nat) : Int) = 0 from rfl, Int.zero_mul]; omega
    rw [e1, e2, Rat.zero_add]; rfl
  | succ c ih =>
    unfold refIn
    split
    · exact ⟨c + 1, Nat.le_refl _, rfl⟩
    · obtain ⟨j, h1, h2⟩ := ih
      exact ⟨j, by omega, h2⟩

end Go.Off
namespace Go.Off

/-- Sums over the last m of N places. -/
def sTN (N : Nat) (f : Nat → Nat) : Nat → Nat
  | 0 => 0
  | m + 1 => f (N - (m + 1)) + sTN N f m
def sTR (N : Nat) (f : Nat → Rat) : Nat → Rat
  | 0 => 0
  | m + 1 => f (N - (m + 1)) + sTR N f m
theorem sTN_eq (N : Nat) (f : Nat → Nat) (m : Nat) (h : m ≤ N) : sumN (N - m) f + sTN N f m = sumN N f := by
  induction m with
  | zero => rfl
  | succ m ih =>
    have := ih (by omega)
    have e : N - m = (N - (m + 1)) + 1 := by omega
    rw [e] at this
    change sumN (N - (m + 1)) f + f (N - (m + 1)) + sTN N f m = _ at this
    show sumN (N - (m + 1)) f + (f (N - (m + 1)) + sTN N f m) = _
    omega
theorem sTR_eq (N : Nat) (f : Nat → Rat) (m : Nat) (h : m ≤ N) : sumR (N - m) f + sTR N f m = sumR N f := by
  induction m with
  | zero => exact Rat.add_zero _
  | succ m ih =>
    have := ih (by omega)
    have e : N - m = (N - (m + 1)) + 1 := by omega
    rw [e] at this
    change sumR (N - (m + 1)) f + f (N - (m + 1)) + sTR N f m = _ at this
    show sumR (N - (m + 1)) f + (f (N - (m + 1)) + sTR N f m) = _
    grind
theorem sTN_congr {N m : Nat} {f g : Nat → Nat} (h : ∀ i, N - m ≤ i → i < N → f i = g i) (hm : m ≤ N) : sTN N f m = sTN N g m := by
  induction m with
  | zero => rfl
  | succ m ih =>
    show f _ + sTN N f m = g _ + sTN N g m
    rw [h _ (Nat.le_refl _) (by omega), ih (fun i h1 h2 => h i (by omega) h2) (by omega)]
theorem sTR_congr {N m : Nat} {f g : Nat → Rat} (h : ∀ i, N - m ≤ i → i < N → f i = g i) (hm : m ≤ N) : sTR N f m = sTR N g m := by
  induction m with
  | zero => rfl
  | succ m ih =>
    show f _ + sTR N f m = g _ + sTR N g m
    rw [h _ (Nat.le_refl _) (by omega), ih (fun i h1 h2 => h i (by omega) h2) (by omega)]

theorem roomN_le {W need left : Int} {j : Nat} (hW : 1 ≤ W) (hl : 0 ≤ left) (h : j ≤ roomN W need left) : j ≤ need.toNat ∧ (j : Int) * W ≤ left := by
  unfold roomN at h
  have h1 : j ≤ (left / W).toNat := by omega
  have h2 : 0 ≤ left / W := Int.ediv_nonneg hl (by omega)
  have h3 : (j : Int) ≤ left / W := by omega
  exact ⟨by omega, (Int.le_ediv_iff_mul_le (by omega)).1 h3⟩
theorem roomN_ge {W need left : Int} {j : Nat} (hW : 1 ≤ W) (h1 : j ≤ need.toNat) (h2 : (j : Int) * W ≤ left) : j ≤ roomN W need left := by
  have h3 : (j : Int) ≤ left / W := (Int.le_ediv_iff_mul_le (by omega)).2 h2
  unfold roomN
  omega
theorem toNat_mul' {n : Nat} {W : Int} (hW : 1 ≤ W) : ((n * W.toNat : Nat) : Int) = (n : Int) * W := by
  rw [Int.natCast_mul, Int.toNat_of_nonneg (by omega)]

theorem refD_ge (N : Nat) (W need : Nat → Int) (q : Nat → Rat) (hW : ∀ k, k < N → 1 ≤ W k) (n : Nat → Nat) : ∀ m, m ≤ N → ∀ left : Int, (∀ k, k < N → n k ≤ (need k).toNat) →
    ((sTN N (fun k => n k * (W k).toNat) m : Nat) : Int) ≤ left → sTR N (fun k => q k * ((n k : Nat) : Rat)) m ≤ refD N W need q m left := by
  intro m
  induction m with
  | zero => intro _ left _ _; exact Rat.le_refl
  | succ m ih =>
    intro hm left hn hs
    change ((n (N - (m + 1)) * (W (N - (m + 1))).toNat + sTN N (fun k => n k * (W k).toNat) m : Nat) : Int) ≤ left at hs
    have hw := hW (N - (m + 1)) (by omega)
    rw [Int.natCast_add, toNat_mul' hw] at hs
    have h1 := ih (by omega) (left - (n (N - (m + 1)) : Int) * W (N - (m + 1))) hn (by omega)
    have h2 := refIn_ge (refD N W need q m) (W (N - (m + 1))) (q (N - (m + 1))) left (roomN (W (N - (m + 1))) (need (N - (m + 1))) left) (n (N - (m + 1)))
      (roomN_ge hw (hn _ (by omega)) (by omega))
    show q _ * _ + sTR N _ m ≤ refIn _ _ _ _ _
    grind
theorem refD_at (N : Nat) (W need : Nat → Int) (q : Nat → Rat) (hW : ∀ k, k < N → 1 ≤ W k) : ∀ m, m ≤ N → ∀ left : Int, 0 ≤ left →
    ∃ n : Nat → Nat, (∀ k, n k ≤ (need k).toNat) ∧ ((sTN N (fun k => n k * (W k).toNat) m : Nat) : Int) ≤ left ∧ sTR N (fun k => q k * ((n k : Nat) : Rat)) m = refD N W need q m left := by
  intro m
  induction m with
  | zero => intro _ left hl; exact ⟨fun _ => 0, fun _ => Nat.zero_le _, hl, rfl⟩
  | succ m ih =>
    intro hm left hl
    have hw := hW (N - (m + 1)) (by omega)
    obtain ⟨j, hj, he⟩ := refIn_eq (refD N W need q m) (W (N - (m + 1))) (q (N - (m + 1))) left (roomN (W (N - (m + 1))) (need (N - (m + 1))) left)
    obtain ⟨r1, r2⟩ := roomN_le hw hl hj
    obtain ⟨n, h1, h2, h3⟩ := ih (by omega) (left - (j : Int) * W (N - (m + 1))) (by omega)
    have c1 : sTN N (fun k => (if k = N - (m + 1) then j else n k) * (W k).toNat) m = sTN N (fun k => n k * (W k).toNat) m := sTN_congr (fun i hi hi2 => by rw [if_neg (by omega)]) (by omega)
    have c2 : sTR N (fun k => q k * (((if k = N - (m + 1) then j else n k : Nat) : Nat) : Rat)) m = sTR N (fun k => q k * ((n k : Nat) : Rat)) m := sTR_congr (fun i hi hi2 => by rw [if_neg (by omega)]) (by omega)
    refine ⟨fun k => if k = N - (m + 1) then j else n k, fun k => ?_, ?_, ?_⟩
    · dsimp only; split
      · rename_i e; rw [e]; exact r1
      · exact h1 k
    · show (((if N - (m + 1) = N - (m + 1) then j else n _) * (W (N - (m + 1))).toNat + sTN N (fun k => (if k = N - (m + 1) then j else n k) * (W k).toNat) m : Nat) : Int) ≤ left
      rw [if_pos rfl, c1, Int.natCast_add, toNat_mul' hw]
      omega
    · show q (N - (m + 1)) * (((if N - (m + 1) = N - (m + 1) then j else n _ : Nat) : Nat) : Rat) + sTR N (fun k => q k * (((if k = N - (m + 1) then j else n k : Nat) : Nat) : Rat)) m = refIn _ _ _ _ _
      rw [if_pos rfl, c2, h3, he]

/-- Both are the greatest worth. -/
theorem best_ref (N : Nat) (W need : Nat → Int) (q : Nat → Rat) (pos : Nat → Bool) (hW : ∀ k, k < N → 1 ≤ W k) (hpos : ∀ k, pos k = true ↔ 0 < q k) (R : Nat) :
    bestF (fun k => (W k).toNat) q (pieceL (fun k => (need k).toNat) pos N) R = refD N W need q N R := by
  have hlt : ∀ k ∈ pieceL (fun k => (need k).toNat) pos N, k < N := fun k hk => by
    have h1 := List.count_pos_iff.2 hk
    rw [pieceL_count] at h1
    split at h1
    · rename_i h; exact h.1
    · omega
  apply Rat.le_antisymm
  · obtain ⟨b1, b2, b3⟩ := back_done (fun k => (W k).toNat) q (pieceL (fun k => (need k).toNat) pos N) R N hlt
    generalize (backF (fun k => (W k).toNat) q (pieceL (fun k => (need k).toNat) pos N) R (pieceL (fun k => (need k).toNat) pos N).length).2 = n at b1 b2 b3
    have hn : ∀ k, k < N → n k ≤ (need k).toNat := fun k hk => by
      have := b3 k
      rw [pieceL_count] at this
      split at this <;> omega
    have e1 := sTN_eq N (fun k => n k * (W k).toNat) N (Nat.le_refl _)
    have e2 := sTR_eq N (fun k => q k * ((n k : Nat) : Rat)) N (Nat.le_refl _)
    rw [Nat.sub_self] at e1 e2
    change 0 + _ = _ at e1
    change 0 + _ = _ at e2
    rw [Rat.zero_add] at e2
    have h := refD_ge N W need q hW n N (Nat.le_refl _) R hn (by omega)
    rw [e2, b1] at h
    exact h
  · obtain ⟨n, h1, h2, h3⟩ := refD_at N W need q hW N (Nat.le_refl _) R (by omega)
    have e1 := sTN_eq N (fun k => n k * (W k).toNat) N (Nat.le_refl _)
    have e2 := sTR_eq N (fun k => q k * ((n k : Nat) : Rat)) N (Nat.le_refl _)
    rw [Nat.sub_self] at e1 e2
    change 0 + _ = _ at e1
    change 0 + _ = _ at e2
    rw [Rat.zero_add] at e2
    rw [← h3, e2]
    exact best_upper _ q _ pos hpos n N R (fun k _ => h1 k) (by omega)

end Go.Off
namespace Go.Off

/-- The greatest worth. -/
def kv (N : Nat) (W need : Nat → Int) (q : Nat → Rat) (R : Nat) : Rat := bestF (fun k => (W k).toNat) q (pieceL (fun k => (need k).toNat) (fun k => decide (0 < q k)) N) R
theorem kv_ge {N : Nat} {W need : Nat → Int} {q : Nat → Rat} {R : Nat} {n : Nat → Nat} (h1 : ∀ k, k < N → n k ≤ (need k).toNat) (h2 : sumN N (fun k => n k * (W k).toNat) ≤ R) :
    sumR N (fun k => q k * ((n k : Nat) : Rat)) ≤ kv N W need q R := best_upper _ q _ _ (fun k => decide_eq_true_iff) n N R h1 h2
theorem kv_at (N : Nat) (W need : Nat → Int) (q : Nat → Rat) (R : Nat) : ∃ n : Nat → Nat, (∀ k, k < N → n k ≤ (need k).toNat) ∧ sumN N (fun k => n k * (W k).toNat) ≤ R ∧ sumR N (fun k => q k * ((n k : Nat) : Rat)) = kv N W need q R := by
  have hlt : ∀ k ∈ pieceL (fun k => (need k).toNat) (fun k => decide (0 < q k)) N, k < N := fun k hk => by
    have h1 := List.count_pos_iff.2 hk
    rw [pieceL_count] at h1
    split at h1
    · rename_i h; exact h.1
    · omega
  obtain ⟨b1, b2, b3⟩ := back_done (fun k => (W k).toNat) q (pieceL (fun k => (need k).toNat) (fun k => decide (0 < q k)) N) R N hlt
  refine ⟨_, fun k hk => ?_, b2, b1⟩
  have := b3 k
  rw [pieceL_count] at this
  split at this <;> omega

theorem kv_wider {N : Nat} {W need need' : Nat → Int} {q : Nat → Rat} {R R' : Nat} (hR : R ≤ R') (hn : ∀ k, k < N → need k ≤ need' k) : kv N W need q R ≤ kv N W need' q R' := by
  obtain ⟨n, h1, h2, h3⟩ := kv_at N W need q R
  rw [← h3]
  refine kv_ge (fun k hk => ?_) (by omega)
  have := h1 k hk; have := hn k hk; omega

theorem sumN_add (a b : Nat) (f : Nat → Nat) : sumN (a + b) f = sumN a f + sumN b (fun i => f (a + i)) := by
  induction b with
  | zero => rfl
  | succ b ih => show sumN (a + b) f + f (a + b) = _ + (sumN b _ + f (a + b)); rw [ih]; omega
theorem sumR_plus (a b : Nat) (f : Nat → Rat) : sumR (a + b) f = sumR a f + sumR b (fun i => f (a + i)) := by
  induction b with
  | zero => exact (Rat.add_zero _).symm
  | succ b ih => show sumR (a + b) f + f (a + b) = _ + (sumR b _ + f (a + b)); rw [ih]; grind
/-- What stands at a place, once the first c have gone behind the others. -/
def rotI (N c k : Nat) : Nat := if k < N - c then c + k else k - (N - c)
theorem sumN_rot {N c : Nat} (hc : c ≤ N) (f : Nat → Nat) : sumN N (fun k => f (rotI N c k)) = sumN N f := by
  have e1 := sumN_add (N - c) c (fun k => f (rotI N c k))
  have e2 := sumN_add c (N - c) f
  rw [show N - c + c = N by omega] at e1
  rw [show c + (N - c) = N by omega] at e2
  have e3 : sumN (N - c) (fun k => f (rotI N c k)) = sumN (N - c) (fun i => f (c + i)) := sumN_congr (fun i hi => by unfold rotI; rw [if_pos hi])
  have e4 : sumN c (fun i => f (rotI N c (N - c + i))) = sumN c f := sumN_congr (fun i hi => by unfold rotI; rw [if_neg (by omega)]; congr 1; omega)
  omega
theorem sumR_rot {N c : Nat} (hc : c ≤ N) (f : Nat → Rat) : sumR N (fun k => f (rotI N c k)) = sumR N f := by
  have e1 := sumR_plus (N - c) c (fun k => f (rotI N c k))
  have e2 := sumR_plus c (N - c) f
  rw [show N - c + c = N by omega] at e1
  rw [show c + (N - c) = N by omega] at e2
  have e3 : sumR (N - c) (fun k => f (rotI N c k)) = sumR (N - c) (fun i => f (c + i)) := sumR_congr (fun i hi => by unfold rotI; rw [if_pos hi])
  have e4 : sumR c (fun i => f (rotI N c (N - c + i))) = sumR c f := sumR_congr (fun i hi => by unfold rotI; rw [if_neg (by omega)]; congr 1; omega)
  rw [e3, e4] at e1
  rw [e1, e2]
  exact Rat.add_comm _ _
theorem rotI_lt {N c k : Nat} (hc : c ≤ N) (hk : k < N) : rotI N c k < N := by unfold rotI; split <;> omega
theorem kv_rot_le {N c : Nat} {W need W' need' : Nat → Int} {q q' : Nat → Rat} {R : Nat} (hc : c ≤ N) (hW : ∀ k, k < N → W' k = W (rotI N c k)) (hn : ∀ k, k < N → need' k = need (rotI N c k)) (hq : ∀ k, k < N → q' k = q (rotI N c k)) :
    kv N W need q R ≤ kv N W' need' q' R := by
  obtain ⟨n, h1, h2, h3⟩ := kv_at N W need q R
  rw [← h3, ← sumR_rot hc]
  have e : sumR N (fun k => q (rotI N c k) * ((n (rotI N c k) : Nat) : Rat)) = sumR N (fun k => q' k * ((n (rotI N c k) : Nat) : Rat)) := sumR_congr (fun i hi => by rw [hq i hi])
  rw [e]
  refine kv_ge (n := fun k => n (rotI N c k)) (fun k hk => by rw [hn k hk]; exact h1 _ (rotI_lt hc hk)) ?_
  have e2 : sumN N (fun k => n (rotI N c k) * (W' k).toNat) = sumN N (fun k => (fun i => n i * (W i).toNat) (rotI N c k)) := sumN_congr (fun i hi => by rw [hW i hi])
  have e3 := sumN_rot hc (fun i => n i * (W i).toNat)
  rw [e2, e3]
  exact h2
theorem rotI_back {N c k : Nat} (hc : c ≤ N) (hk : k < N) : rotI N c (rotI N (N - c) k) = k := by
  unfold rotI
  by_cases h : k < N - (N - c)
  · rw [if_pos h, if_neg (by omega)]; omega
  · rw [if_neg h, if_pos (by omega)]; omega
theorem kv_rot {N c : Nat} {W need W' need' : Nat → Int} {q q' : Nat → Rat} {R : Nat} (hc : c ≤ N) (hW : ∀ k, k < N → W' k = W (rotI N c k)) (hn : ∀ k, k < N → need' k = need (rotI N c k)) (hq : ∀ k, k < N → q' k = q (rotI N c k)) :
    kv N W need q R = kv N W' need' q' R := by
  refine Rat.le_antisymm (kv_rot_le hc hW hn hq) (kv_rot_le (c := N - c) (Nat.sub_le _ _) (fun k hk => ?_) (fun k hk => ?_) (fun k hk => ?_))
  · rw [hW _ (rotI_lt (Nat.sub_le _ _) hk), rotI_back hc hk]
  · rw [hn _ (rotI_lt (Nat.sub_le _ _) hk), rotI_back hc hk]
  · rw [hq _ (rotI_lt (Nat.sub_le _ _) hk), rotI_back hc hk]

theorem sumR_two (N : Nat) (q : Nat → Rat) (n : Nat → Nat) : sumR N (fun k => q k * 2 * ((n k : Nat) : Rat)) = sumR N (fun k => q k * ((n k : Nat) : Rat)) + sumR N (fun k => q k * ((n k : Nat) : Rat)) := by
  rw [← sumR_add]
  exact sumR_congr (fun i _ => by grind)
theorem kv_two (N : Nat) (W need : Nat → Int) (q : Nat → Rat) (R : Nat) : kv N W need (fun k => q k * 2) R = kv N W need q R + kv N W need q R := by
  apply Rat.le_antisymm
  · obtain ⟨n, h1, h2, h3⟩ := kv_at N W need (fun k => q k * 2) R
    rw [← h3, sumR_two]
    have := kv_ge (q := q) h1 h2
    grind
  · obtain ⟨n, h1, h2, h3⟩ := kv_at N W need q R
    rw [← h3, ← sumR_two]
    exact kv_ge (q := fun k => q k * 2) h1 h2

theorem kv_ref (N : Nat) (W need : Nat → Int) (q : Nat → Rat) (hW : ∀ k, k < N → 1 ≤ W k) (R : Nat) : kv N W need q R = refD N W need q N R := best_ref N W need q _ hW (fun k => decide_eq_true_iff) R

end Go.Off
