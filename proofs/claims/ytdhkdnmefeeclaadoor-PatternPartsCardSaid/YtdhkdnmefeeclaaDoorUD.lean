/- Walks of pattern: worth, Best; offcutlaw18: awake. -/
import Derived.Test.YtdhkdnmefeeclaaDoorUC
set_option linter.unusedSimpArgs false
set_option linter.unusedVariables false
set_option linter.unnecessarySimpa false
set_option linter.unusedSimpArgs false
set_option linter.unusedVariables false
set_option maxRecDepth 100000
set_option maxHeartbeats 4000000
namespace Go.Proofs.YtdhkdnmefeeclaaDoor
open Go Go.Am Go.Proofs Go.RowKit Go.Off

def worthL (ws : VV) (ks : List Nat) : Rat := ks.foldl (fun s k => s + qAt ws k) 0
theorem worthL_snoc (ws : VV) (ks : List Nat) (k : Nat) : worthL ws (ks ++ [k]) = worthL ws ks + qAt ws k := by unfold worthL; rw [List.foldl_append]; rfl
def worthN (ws : VV) (n : Nat) : Rat := worthL ws (itemsL n)
theorem q_out {ws : VV} {k : Nat} (h : ¬ k < (osl ws).length) : qAt ws k = 0 := by unfold qAt; rw [rAt_out (by omega)]; exact zR_val
theorem fits_worthL {ws : VV} {n L : Nat} (h : FitsV ws n L) (hL : 1 ≤ L) (ks : List Nat) : FitsQ (worthL ws ks) (ks.length * (L + 1) + 1) := by
  have key : ∀ (m : Nat), m ≤ ks.length → FitsQ (worthL ws (ks.take m)) (m * (L + 1) + 1) := by
    intro m
    induction m with
    | zero => intro _; exact fitsQ_zero _ (by omega)
    | succ m ih =>
      intro hm
      rw [List.take_succ_eq_append_getElem (by omega), worthL_snoc]
      exact ((ih (by omega)).add1 ((h.at _).val hL)).mono (by rw [Nat.add_mul m 1]; omega)
  have := key ks.length (Nat.le_refl _)
  rwa [List.take_length] at this

abbrev c70_k1 : CC := (.seq (.reg [⟨(some 21), none, (.load 3 true (.tmp 5))⟩, ⟨none, none, (.store 3 (.tmp 4) (.tmp 21))⟩]) .ret)
abbrev c70_b1 : CC := (.block 1 (.seq (.reg [⟨(some 11), none, (.mv (.tmp 6))⟩, ⟨(some 12), none, (.load 1 false (.tmp 2))⟩, ⟨(some 13), none, (.len false (.tmp 12))⟩, ⟨(some 14), none, (.bin .lss (.tmp 11) (.tmp 13))⟩]) (.cond (.tmp 14) (.reg [⟨(some 15), none, (.load 3 true (.tmp 5))⟩, ⟨(some 16), none, (.load 1 false (.tmp 2))⟩, ⟨(some 17), none, (.mv (.tmp 6))⟩, ⟨(some 18), none, (.iaddr 3 none (.tmp 16) (.tmp 17))⟩, ⟨(some 19), none, (.load 3 true (.tmp 18))⟩, ⟨(some 20), none, (.callf (.func 27) [(.tmp 15), (.tmp 19)])⟩, ⟨none, none, (.store 3 (.tmp 5) (.tmp 20))⟩]) .skip)))
abbrev c70 : CC := (.seq (.reg [⟨(some 2), none, (.box 71 (.tmp 0))⟩, ⟨(some 4), none, (.new 45 [(.bool false), (.slice none 0 0), (.slice none 0 0)])⟩]) (.seq (.reg [⟨(some 7), none, (.callf (.func 26) [(.const (.int .i64 (0)))])⟩, ⟨(some 5), none, (.new 45 [(.bool false), (.slice none 0 0), (.slice none 0 0)])⟩, ⟨none, none, (.store 3 (.tmp 5) (.tmp 7))⟩]) (.seq (.seq (.reg [⟨(some 8), none, (.mv (.tmp 1))⟩, ⟨(some 9), none, (.callf (.func 72) [(.tmp 8)])⟩]) (.block 0 (.rf (.tmp 9) [10] [(6, 10)] c70_b1))) c70_k1)))
theorem cc70 : ccode Tryd.prog [] (Tryd.f70.body.getD .skip) = some c70 := by kernel_rfl
theorem body70 : Tryd.f70.body = some (Tryd.f70.body.getD .skip) := rfl

theorem pworth_C (ws : VV) (n N L : Nat) (hw : FitsV ws N L) (hN : N ≤ 1000) (hL : 1 ≤ L) (hL2 : L ≤ 1000) (hn : n < 4096) : PureC Tryd.prog 70 [aV ws, aI n] (.ret (aR (rawQ (worthN ws n)))) := by
  have hint := rint_C 0 (by omega) (by omega)
  rw [show ((0 : Int) : Rat) = 0 from rfl] at hint
  have hit0 := items_C n
  have hlt := items_lt n
  have hit := items_iter n 12 hn hlt
  have hcnt := items_count n
  have hfv := finK_val hlt
  have hfl : (finK 12 (itemsL n)).length = (itemsL n).length := by rw [← List.length_map (f := Fin.val), hfv]
  have hw1 := hw.1
  unfold worthN
  have h0 : worthL ws [] = 0 := rfl
  refine pureC_of (rs := [(RV.cell 4 3 true)]) Tryd.func70 (fun a w => Tryd.call70 a w) body70 cc70 (by kernel_rfl) ?_
  rw [Tryd.ntmps70]
  simp only [frs, Nat.reduceAdd, Nat.reduceSub]
  repeat (first | (with_reducible first | refine Way.imp ?_ | refine blk_o rfl ?_) | ((with_reducible refine WayR.imp (fun K hK => ?_)); simp (disch := first | omega | (simp only [dls]; omega)) only [std, reduceIte, reduceCtorEq, Int.reduceToNat, Nat.reduceAdd, Nat.reduceSub, Nat.reduceMul, Int.reduceAdd, Int.reduceSub, Int.reduceMul, Int.reduceNeg, fU]; subst hK) | refine zcA (hint) rfl rfl rfl ?_ | refine zcA (hit0) rfl rfl rfl ?_)
  refine awp_fold hit rfl (by simp [closedCell]) (fun (ks : List Nat) => [⟨0, 71, 1, [[.c (vr ws)]], true, true⟩, ⟨0, 45, 3, [[.c (.val (.bool false)), .c (.val (.slice none 0 0)), .c (.val (.slice none 0 0))]], true, true⟩, ⟨0, 45, 3, [[.c (.val (.bool (rawQ (worthL ws ks)).minus)), .c (nr (rawQ (worthL ws ks)).size), .c (nr (rawQ (worthL ws ks)).den)]], true, true⟩]) (fun ks k => ks ++ [k.1]) (fun i ks => ks.length = i) [] (by rw [h0]) rfl ?_ ?_
  · intro i ks k hi hks
    obtain ⟨k, hk⟩ := k
    rw [hfl] at hi
    have hsn := worthL_snoc ws ks k
    have hfs := fits_worthL hw hL ks
    have hm : ks.length * (L + 1) ≤ 12 * 1001 := Nat.mul_le_mul (by omega) (by omega)
    by_cases hkl : k < (osl ws).length
    · have hra : rAt ws k = (osl ws)[k] := rAt_in hkl
      have hfw := hw.at k
      rw [hra] at hfw
      have had := radd_C (rawQ (worthL ws ks)) (osl ws)[k] (fits_rawQ (hfs.mono (by omega))) (hfw.mono (by omega))
      rw [rawQ_val] at had
      have hst : worthL ws (ks ++ [k]) = worthL ws ks + (osl ws)[k].val := by rw [hsn]; unfold qAt; rw [hra]
      rw [← hst] at had
      simp only [mvT, setps, rnd, Nat.reduceAdd]
      repeat (first | (with_reducible first | refine Way.imp ?_ | refine blk_o rfl ?_) | ((with_reducible refine WayR.imp (fun K hK => ?_)); simp (disch := first | omega | (simp only [dls]; omega)) only [std, reduceIte, reduceCtorEq, Int.reduceToNat, Nat.reduceAdd, Nat.reduceSub, Nat.reduceMul, Int.reduceAdd, Int.reduceSub, Int.reduceMul, Int.reduceNeg, fU, fR]; subst hK) | refine zcA (had) rfl rfl rfl ?_)
      refine ⟨_, ⟨rfl, ?hI⟩, _, Fgt.head (Nat.le_refl _) [] rfl ?hH⟩
      case hI => rw [List.length_append]; exact congrArg (· + 1) hks
      case hH => first | (simp (disch := omega) only [hds, liveT, cleanAV, cleanCell, clean1, cleanBlk, reduceIte]; done) | rfl
    · have hst : worthL ws (ks ++ [k]) = worthL ws ks := by rw [hsn, q_out hkl, Rat.add_zero]
      simp only [mvT, setps, rnd, Nat.reduceAdd]
      repeat (first | (with_reducible first | refine Way.imp ?_ | refine blk_o rfl ?_) | ((with_reducible refine WayR.imp (fun K hK => ?_)); simp (disch := first | omega | (simp only [dls]; omega)) only [std, reduceIte, reduceCtorEq, Int.reduceToNat, Nat.reduceAdd, Nat.reduceSub, Nat.reduceMul, Int.reduceAdd, Int.reduceSub, Int.reduceMul, Int.reduceNeg, fU, fR]; subst hK))
      refine ⟨_, ⟨rfl, ?hI⟩, _, Fgt.head (Nat.le_refl _) [] rfl ?hH⟩
      case hI => rw [List.length_append]; exact congrArg (· + 1) hks
      case hH => rw [hst]; first | (simp (disch := omega) only [hds, liveT, cleanAV, cleanCell, clean1, cleanBlk, reduceIte]; done) | rfl
  · intro _
    have hfold : ∀ (l' : List (Fin 12)) (a : List Nat), l'.foldl (fun ks k => ks ++ [k.1]) a = a ++ l'.map Fin.val := by
      intro l'
      induction l' with
      | nil => intro a; simp
      | cons x l' ih => intro a; rw [List.foldl_cons, ih, List.map_cons, List.append_assoc]; rfl
    rw [hfold, List.nil_append, hfv]
    repeat (first | (with_reducible first | refine Way.imp ?_ | refine blk_o rfl ?_) | ((with_reducible refine WayR.imp (fun K hK => ?_)); simp (disch := first | omega | (simp only [dls]; omega)) only [std, reduceIte, reduceCtorEq, Int.reduceToNat, Nat.reduceAdd, Nat.reduceSub, Nat.reduceMul, Int.reduceAdd, Int.reduceSub, Int.reduceMul, Int.reduceNeg, fU]; subst hK))
    exact ⟨_, rfl, rfl⟩

/-! ### the best one -/

def stepP (ws : VV) (p : Nat × Rat) (s : Nat) : Nat × Rat := if p.1 = 0 ∨ p.2 < worthN ws s then (s, worthN ws s) else p
def bestP (ws : VV) (L : List Nat) : Nat × Rat := L.foldl (stepP ws) (0, 0)
theorem bestP_snoc (ws : VV) (L : List Nat) (s : Nat) : bestP ws (L ++ [s]) = stepP ws (bestP ws L) s := by unfold bestP; rw [List.foldl_append]; rfl
def patsL (roll : Int) (l : WI) (r : RL) : List Nat := if mayB roll l then patL roll l r else []
theorem osl_allV (roll : Int) (l : WI) (r : RL) : osl (allV roll l r) = natI (patsL roll l r) := by
  unfold allV patsL
  split
  · exact osl_rowO _
  · rfl
theorem pats_lt {roll : Int} {l : WI} {r : RL} : ∀ s ∈ patsL roll l r, s < 4096 ∧ 0 < s := fun s hs => by
  unfold patsL at hs
  split at hs
  · rename_i h
    have := (may_of h).len
    unfold patL patTo at hs
    obtain ⟨h1, h2⟩ := List.mem_filter.1 hs
    have h3 := List.mem_range.1 h1
    have h4 := pow_4096 this
    unfold isPat at h2
    simp only [Bool.and_eq_true, decide_eq_true_eq] at h2
    exact ⟨by omega, h2.1⟩
  · cases hs
theorem pats_len (roll : Int) (l : WI) (r : RL) : (patsL roll l r).length ≤ 4096 := by
  unfold patsL
  split
  · rename_i h
    exact Nat.le_trans (patTo_len _ _ _ _) (pow_4096 (may_of h).len)
  · exact Nat.zero_le _
theorem best_most (ws : VV) (L : List Nat) : (bestP ws L).2 = 0 ∨ ∃ s, (bestP ws L).2 = worthN ws s := by
  have key : ∀ m, m ≤ L.length → (bestP ws (L.take m)).2 = 0 ∨ ∃ s, (bestP ws (L.take m)).2 = worthN ws s := by
    intro m
    induction m with
    | zero => intro _; exact .inl rfl
    | succ m ih =>
      intro hm
      rw [List.take_succ_eq_append_getElem (by omega), bestP_snoc]
      unfold stepP
      split
      · exact .inr ⟨_, rfl⟩
      · exact ih (by omega)
  have := key L.length (Nat.le_refl _)
  rwa [List.take_length] at this
theorem best_fits {ws : VV} {n L : Nat} (h : FitsV ws n L) (hL : 1 ≤ L) (Ls : List Nat) : FitsQ (bestP ws Ls).2 (12 * (L + 1) + 1) := by
  rcases best_most ws Ls with e | ⟨s, e⟩
  · rw [e]; exact fitsQ_zero _ (by omega)
  · rw [e]; exact (fits_worthL h hL _).mono (by have := Nat.mul_le_mul_right (L + 1) (items_count s); omega)

abbrev c39_k1 : CC := (.seq (.reg [⟨(some 39), none, (.mv (.tmp 10))⟩, ⟨(some 40), none, (.load 3 true (.tmp 11))⟩, ⟨(some 8), none, (.mv (.tmp 39))⟩, ⟨none, none, (.store 3 (.tmp 9) (.tmp 40))⟩]) .ret)
abbrev c39_b1 : CC := (.seq (.reg [⟨(some 22), none, (.bin .lss (.tmp 21) (.tmp 20))⟩]) (.seq (.cond (.tmp 22) .skip (.exit 0)) (.seq (.block 1 (.seq (.reg [⟨(some 23), none, (.iaddr 1 none (.tmp 19) (.tmp 21))⟩, ⟨(some 24), none, (.load 1 false (.tmp 23))⟩, ⟨(some 13), none, (.mv (.tmp 24))⟩]) (.seq (.reg [⟨(some 25), none, (.mv (.tmp 3))⟩, ⟨(some 26), none, (.mv (.tmp 13))⟩, ⟨(some 27), none, (.callf (.func 70) [(.tmp 25), (.tmp 26)])⟩, ⟨(some 14), none, (.new 45 [(.bool false), (.slice none 0 0), (.slice none 0 0)])⟩, ⟨none, none, (.store 3 (.tmp 14) (.tmp 27))⟩]) (.seq (.reg [⟨(some 28), none, (.mv (.tmp 10))⟩, ⟨(some 29), none, (.bin .eql (.tmp 28) (.const (.int .i64 (0))))⟩, ⟨(some 30), none, (.mv (.tmp 29))⟩, ⟨(some 31), (some (30, false)), (.load 3 true (.tmp 14))⟩, ⟨(some 32), (some (30, false)), (.load 3 true (.tmp 11))⟩, ⟨(some 33), (some (30, false)), (.callf (.func 25) [(.tmp 31), (.tmp 32)])⟩, ⟨(some 34), (some (30, false)), (.bin .gtr (.tmp 33) (.const (.int .i64 (0))))⟩, ⟨(some 35), none, (.pick (.tmp 30) (.const (.bool true)) (.tmp 34))⟩]) (.cond (.tmp 35) (.reg [⟨(some 36), none, (.mv (.tmp 13))⟩, ⟨(some 37), none, (.load 3 true (.tmp 14))⟩, ⟨(some 10), none, (.mv (.tmp 36))⟩, ⟨none, none, (.store 3 (.tmp 11) (.tmp 37))⟩]) .skip))))) (.reg [⟨(some 38), none, (.bin .add (.tmp 21) (.const (.int .i64 (1))))⟩, ⟨(some 21), none, (.mv (.tmp 38))⟩]))))
abbrev c39 : CC := (.seq (.reg [⟨(some 8), none, (.mv (.const (.int .i64 (0))))⟩, ⟨(some 9), none, (.new 45 [(.bool false), (.slice none 0 0), (.slice none 0 0)])⟩]) (.seq (.reg [⟨(some 15), none, (.callf (.func 26) [(.const (.int .i64 (0)))])⟩, ⟨(some 11), none, (.new 45 [(.bool false), (.slice none 0 0), (.slice none 0 0)])⟩, ⟨(some 10), none, (.mv (.const (.int .i64 (0))))⟩, ⟨none, none, (.store 3 (.tmp 11) (.tmp 15))⟩]) (.seq (.seq (.reg [⟨(some 16), none, (.mv (.tmp 0))⟩, ⟨(some 17), none, (.mv (.tmp 1))⟩, ⟨(some 18), none, (.mv (.tmp 2))⟩, ⟨(some 19), none, (.callf (.func 35) [(.tmp 16), (.tmp 17), (.tmp 18)])⟩, ⟨(some 20), none, (.len false (.tmp 19))⟩, ⟨(some 21), none, (.mv (.const (.int .i64 (0))))⟩]) (.block 0 (.loop c39_b1))) c39_k1)))
theorem cc39 : ccode Tryd.prog [] (Tryd.f39.body.getD .skip) = some c39 := by kernel_rfl
theorem body39 : Tryd.f39.body = some (Tryd.f39.body.getD .skip) := rfl

theorem pbest_C (roll : Int) (l : WI) (r : RL) (ws : VV) (N L : Nat) (hw : FitsV ws N L) (hN : N ≤ 1000) (hL : 1 ≤ L) (hL2 : L ≤ 1000) : PureC Tryd.prog 39 [aI roll, aWs l, aRl r, aV ws] (.ret (.tup [aI (bestP ws (patsL roll l r)).1, aR (rawQ (bestP ws (patsL roll l r)).2)])) := by
  have hint := rint_C 0 (by omega) (by omega)
  rw [show ((0 : Int) : Rat) = 0 from rfl] at hint
  have hall := all_C roll l r
  have hoa := osl_allV roll l r
  have hplt := pats_lt (roll := roll) (l := l) (r := r)
  have hpl := pats_len roll l r
  generalize patsL roll l r = P at *
  generalize allV roll l r = W at *
  have hWl : (osl W).length = P.length := by rw [hoa]; unfold natI; rw [List.length_map]
  have hWi : ∀ i (h : i < (osl W).length), (osl W)[i] = ((P[i]'(by rw [← hWl]; exact h) : Nat) : Int) := fun i h => by simp [hoa, natI]
  have hb0 : bestP ws (P.take 0) = (0, 0) := rfl
  refine pureC_of (rs := [(RV.tmp 8), (RV.cell 9 3 true)]) Tryd.func39 (fun a w => Tryd.call39 a w) body39 cc39 (by kernel_rfl) ?_
  rw [Tryd.ntmps39]
  simp only [frs, Nat.reduceAdd, Nat.reduceSub]
  repeat (first | (with_reducible first | refine Way.imp ?_ | refine blk_o rfl ?_) | ((with_reducible refine WayR.imp (fun K hK => ?_)); simp (disch := first | omega | (simp only [dls]; omega)) only [std, reduceIte, reduceCtorEq, Int.reduceToNat, Nat.reduceAdd, Nat.reduceSub, Nat.reduceMul, Int.reduceAdd, Int.reduceSub, Int.reduceMul, Int.reduceNeg, fU, hWl]; subst hK) | refine zcA (hint) rfl rfl rfl ?_ | refine zcA (hall) rfl rfl rfl ?_)
  refine awp_loop (fun (zz : Nat × Nat × Rat) => ⟨(.junk :: .junk :: .junk :: aV ws :: .junk :: .junk :: .junk :: .junk :: .junk :: .one (.ptr 0 0 0 0) :: aI zz.2.1 :: .one (.ptr 1 0 0 0) :: .junk :: .junk :: .junk :: .junk :: .junk :: .junk :: .junk :: aWs W :: aI P.length :: aI zz.1 :: .junk :: .junk :: .junk :: .junk :: .junk :: .junk :: .junk :: .junk :: .junk :: .junk :: .junk :: .junk :: .junk :: .junk :: .junk :: .junk :: .junk :: .junk :: .junk :: []), [⟨0, 45, 3, [[.c (.val (.bool false)), .c (.val (.slice none 0 0)), .c (.val (.slice none 0 0))]], true, true⟩, ⟨0, 45, 3, [[.c (.val (.bool (rawQ zz.2.2).minus)), .c (nr (rawQ zz.2.2).size), .c (nr (rawQ zz.2.2).den)]], true, true⟩]⟩) (fun (zz : Nat × Nat × Rat) => zz.1 ≤ P.length ∧ (zz.2.1, zz.2.2) = bestP ws (P.take zz.1)) (fun (zz : Nat × Nat × Rat) => P.length - zz.1) (0, 0, 0) ?hI1 (Fgt.head (Nat.zero_le 2) [false, false, false, true, false, false, false, false, false, true, true, true, false, false, false, false, false, false, false, true, true, true] ?hT1 ?hH1) ?hB1
  case hT1 => first | (simp (disch := omega) only [hds, liveT, cleanAV, cleanCell, clean1, cleanBlk, reduceIte, Int.reduceSub, Int.reduceAdd, Int.reduceNeg]; done) | rfl
  case hH1 => first | (simp (disch := omega) only [hds, liveT, cleanAV, cleanCell, clean1, cleanBlk, reduceIte, Int.reduceSub, Int.reduceAdd, Int.reduceNeg]; done) | rfl
  · dsimp only; exact ⟨Nat.zero_le _, hb0.symm⟩
  rintro ⟨i, b, m⟩ ⟨hi, hbm⟩
  dsimp only at hi hbm
  by_cases hie : i = P.length
  · rw [hie, List.take_length] at hbm
    rw [← hbm]
    repeat (first | (with_reducible first | refine Way.imp ?_ | refine blk_o rfl ?_) | ((with_reducible refine WayR.imp (fun K hK => ?_)); simp (disch := first | omega | (simp only [dls]; omega)) only [std, reduceIte, reduceCtorEq, Int.reduceToNat, Nat.reduceAdd, Nat.reduceSub, Nat.reduceMul, Int.reduceAdd, Int.reduceSub, Int.reduceMul, Int.reduceNeg, fU]; subst hK))
    exact ⟨_, rfl, rfl⟩
  · have hlt : i < P.length := by omega
    have hltW : i < (osl W).length := by omega
    have hPi := hplt _ (List.getElem_mem hlt)
    have hwo := pworth_C ws P[i] N L hw hN hL hL2 hPi.1
    have hfm := best_fits hw hL (P.take i)
    rw [← hbm] at hfm
    have hfw : FitsQ (worthN ws P[i]) (12 * (L + 1) + 1) := (fits_worthL hw hL _).mono (by have := Nat.mul_le_mul_right (L + 1) (items_count P[i]); omega)
    have hcm := rcompare_C (rawQ (worthN ws P[i])) (rawQ m) (fits_rawQ (hfw.mono (by omega))) (fits_rawQ (hfm.mono (by omega)))
    rw [rawQ_val, rawQ_val] at hcm
    have hpos := cmpQ_pos (worthN ws P[i]) m
    have hst : bestP ws (P.take (i + 1)) = stepP ws (b, m) P[i] := by rw [List.take_succ_eq_append_getElem hlt, bestP_snoc, ← hbm]
    unfold stepP at hst
    dsimp only at hst
    have hwi := hWi i hltW
    generalize worthN ws P[i] = x at *
    generalize P[i] = s at *
    generalize cmpQ x m = z at *
    by_cases hb0 : b = 0
    · rw [if_pos (.inl hb0)] at hst
      repeat (first | (with_reducible first | refine Way.imp ?_ | refine blk_o rfl ?_) | ((with_reducible refine WayR.imp (fun K hK => ?_)); simp (disch := first | omega | (simp only [dls]; omega)) only [std, reduceIte, reduceCtorEq, Int.reduceToNat, Nat.reduceAdd, Nat.reduceSub, Nat.reduceMul, Int.reduceAdd, Int.reduceSub, Int.reduceMul, Int.reduceNeg, fU, fI, fR, hWl, hwi]; subst hK) | refine zcA (hwo) rfl rfl rfl ?_)
      refine ⟨(i + 1, s, x), ?hI2, ?hM2, Fgt.head (Nat.zero_le 2) [false, false, false, true, false, false, false, false, false, true, true, true, false, false, false, false, false, false, false, true, true, true] ?hT2 ?hH2⟩
      case hT2 => first | (simp (disch := omega) only [hds, liveT, cleanAV, cleanCell, clean1, cleanBlk, reduceIte, Int.reduceSub, Int.reduceAdd, Int.reduceNeg]; done) | rfl
      case hH2 => first | (simp (disch := omega) only [hds, liveT, cleanAV, cleanCell, clean1, cleanBlk, reduceIte, Int.reduceSub, Int.reduceAdd, Int.reduceNeg]; done) | rfl
      · dsimp only; exact ⟨hlt, hst.symm⟩
      · dsimp only; omega
    · by_cases hz : 0 < z
      · rw [if_pos (.inr (hpos.1 hz))] at hst
        repeat (first | (with_reducible first | refine Way.imp ?_ | refine blk_o rfl ?_) | ((with_reducible refine WayR.imp (fun K hK => ?_)); simp (disch := first | omega | (simp only [dls]; omega)) only [std, reduceIte, reduceCtorEq, Int.reduceToNat, Nat.reduceAdd, Nat.reduceSub, Nat.reduceMul, Int.reduceAdd, Int.reduceSub, Int.reduceMul, Int.reduceNeg, fU, fI, fR, hWl, hwi]; subst hK) | refine zcA (hwo) rfl rfl rfl ?_ | (apply call_any_g (hcm) rfl; (case hg => simp (disch := first | omega | (simp only [dls]; omega)) only [std, reduceIte, reduceCtorEq, Int.reduceToNat, Nat.reduceAdd, Nat.reduceSub, Nat.reduceMul, Int.reduceAdd, Int.reduceSub, Int.reduceMul, Int.reduceNeg, fU, fI, fR, hWl, hwi]); (case hcl => (simp only [evs, St.ev, constAV, evl]; (repeat (first | exact closeAVs_nil | (apply closeAVs_cons; (first | (refine close_own3 rfl (by decide)) | (refine close_ownO rfl (by decide) ?_; assumption) | rfl)))); done)); (case hu => rfl)))
        refine ⟨(i + 1, s, x), ?hI3, ?hM3, Fgt.head (Nat.zero_le 2) [false, false, false, true, false, false, false, false, false, true, true, true, false, false, false, false, false, false, false, true, true, true] ?hT3 ?hH3⟩
        case hT3 => first | (simp (disch := omega) only [hds, liveT, cleanAV, cleanCell, clean1, cleanBlk, reduceIte, Int.reduceSub, Int.reduceAdd, Int.reduceNeg]; done) | rfl
        case hH3 => first | (simp (disch := omega) only [hds, liveT, cleanAV, cleanCell, clean1, cleanBlk, reduceIte, Int.reduceSub, Int.reduceAdd, Int.reduceNeg]; done) | rfl
        · dsimp only; exact ⟨hlt, hst.symm⟩
        · dsimp only; omega
      · rw [if_neg (fun h => by rcases h with h | h; exact hb0 h; exact hz (hpos.2 h))] at hst
        repeat (first | (with_reducible first | refine Way.imp ?_ | refine blk_o rfl ?_) | ((with_reducible refine WayR.imp (fun K hK => ?_)); simp (disch := first | omega | (simp only [dls]; omega)) only [std, reduceIte, reduceCtorEq, Int.reduceToNat, Nat.reduceAdd, Nat.reduceSub, Nat.reduceMul, Int.reduceAdd, Int.reduceSub, Int.reduceMul, Int.reduceNeg, fU, fI, fR, hWl, hwi]; subst hK) | refine zcA (hwo) rfl rfl rfl ?_ | (apply call_any_g (hcm) rfl; (case hg => simp (disch := first | omega | (simp only [dls]; omega)) only [std, reduceIte, reduceCtorEq, Int.reduceToNat, Nat.reduceAdd, Nat.reduceSub, Nat.reduceMul, Int.reduceAdd, Int.reduceSub, Int.reduceMul, Int.reduceNeg, fU, fI, fR, hWl, hwi]); (case hcl => (simp only [evs, St.ev, constAV, evl]; (repeat (first | exact closeAVs_nil | (apply closeAVs_cons; (first | (refine close_own3 rfl (by decide)) | (refine close_ownO rfl (by decide) ?_; assumption) | rfl)))); done)); (case hu => rfl)))
        refine ⟨(i + 1, b, m), ?hI4, ?hM4, Fgt.head (Nat.zero_le 2) [false, false, false, true, false, false, false, false, false, true, true, true, false, false, false, false, false, false, false, true, true, true] ?hT4 ?hH4⟩
        case hT4 => first | (simp (disch := omega) only [hds, liveT, cleanAV, cleanCell, clean1, cleanBlk, reduceIte, Int.reduceSub, Int.reduceAdd, Int.reduceNeg]; done) | rfl
        case hH4 => first | (simp (disch := omega) only [hds, liveT, cleanAV, cleanCell, clean1, cleanBlk, reduceIte, Int.reduceSub, Int.reduceAdd, Int.reduceNeg]; done) | rfl
        · dsimp only; exact ⟨hlt, hst.symm⟩
        · dsimp only; omega

/-! ### awake -/

theorem text3 : textQ 3 = [51] := by
  have h1 : dec 3 = [51] := by
    have h := dec_tv (s := [51]) (by simp) (by simp [isDig]) (by simp)
    rwa [show tv [51] = 3 from by decide] at h
  have h : decZ (3 : Rat).num = dec 3 := rfl
  have h2 : (3 : Rat).den = 1 := rfl
  unfold textQ
  rw [if_pos h2, h, h1]
abbrev awL : WI := some [6, 5, 4]
abbrev awR : RL := some [⟨0, 1, false⟩]
abbrev awV : VV := some [rawQ 2, rawQ 1, rawQ 1]
theorem aw_pats : patsL 10 awL awR = [1, 2, 4, 5, 6] := by decide +kernel
theorem aw_all : allV 10 awL awR = some [1, 2, 4, 5, 6] := by
  have h1 : mayB 10 awL = true := by decide
  have h2 := aw_pats
  unfold patsL at h2
  rw [if_pos h1] at h2
  unfold allV
  rw [if_pos h1, h2]
  rfl
theorem awV_q : qAt awV = fun k => if k = 0 then 2 else if k = 1 then 1 else if k = 2 then 1 else 0 := by
  funext k
  match k with
  | 0 => exact rawQ_val 2
  | 1 => exact rawQ_val 1
  | 2 => exact rawQ_val 1
  | k + 3 => rw [if_neg (by omega), if_neg (by omega), if_neg (by omega)]; show (([] : List RR).getD k zR).val = 0; simp [zR_val]
theorem aw_best : bestP awV (patsL 10 awL awR) = (5, 3) := by
  rw [aw_pats]
  unfold bestP stepP worthN worthL
  rw [awV_q]
  decide +kernel
theorem aw_right : rightRl awR = true := by decide
theorem aw_keeps : keepsB awR 5 = true := by decide
theorem litW3 (x y z : Int) : [[Cell.c (.val (.int .i64 x))], [Cell.c (.val (.int .i64 y))], [Cell.c (.val (.int .i64 z))]] = encB fI [x, y, z] := rfl
theorem litR1 (a b : Int) (t : Bool) : [[Cell.c (.val (.int .i64 a)), Cell.c (.val (.int .i64 b)), Cell.c (.val (.bool t))]] = encB fRl [⟨a, b, t⟩] := rfl

abbrev c29 : CC := (.seq (.reg [⟨(some 0), none, (.mv (.const (.bool false)))⟩]) (.seq (.reg [⟨(some 5), none, (.build [(.int .i64 (0)), (.int .i64 (0)), (.bool false)] [(0, (1, (.const (.int .i64 (0))))), (1, (1, (.const (.int .i64 (1)))))])⟩, ⟨(some 6), none, (.mkrow 63 3 [(.tmp 5)])⟩, ⟨(some 1), none, (.mv (.tmp 6))⟩]) (.seq (.reg [⟨(some 7), none, (.mkrow 3 1 [(.const (.int .i64 (6))), (.const (.int .i64 (5))), (.const (.int .i64 (4)))])⟩, ⟨(some 8), none, (.mv (.tmp 1))⟩, ⟨(some 9), none, (.callf (.func 35) [(.const (.int .i64 (10))), (.tmp 7), (.tmp 8)])⟩, ⟨(some 2), none, (.mv (.tmp 9))⟩]) (.seq (.reg [⟨(some 11), none, (.mkrow 3 1 [(.const (.int .i64 (6))), (.const (.int .i64 (5))), (.const (.int .i64 (4)))])⟩, ⟨(some 12), none, (.mv (.tmp 1))⟩, ⟨(some 13), none, (.mkrow 3 1 [(.const (.int .i64 (2))), (.const (.int .i64 (1))), (.const (.int .i64 (1)))])⟩, ⟨(some 14), none, (.callf (.func 40) [(.tmp 13)])⟩, ⟨(some 15), none, (.callf (.func 39) [(.const (.int .i64 (10))), (.tmp 11), (.tmp 12), (.tmp 14)])⟩, ⟨(some 10), none, (.mv (.tmp 15))⟩, ⟨(some 16), none, (.ext (.tmp 10) 0)⟩, ⟨(some 17), none, (.ext (.tmp 10) 1)⟩, ⟨(some 4), none, (.new 45 [(.bool false), (.slice none 0 0), (.slice none 0 0)])⟩, ⟨(some 3), none, (.mv (.tmp 16))⟩, ⟨none, none, (.store 3 (.tmp 4) (.tmp 17))⟩]) (.seq (.reg [⟨(some 18), none, (.mv (.tmp 2))⟩, ⟨(some 19), none, (.len false (.tmp 18))⟩, ⟨(some 20), none, (.bin .eql (.tmp 19) (.const (.int .i64 (5))))⟩, ⟨(some 21), none, (.mv (.tmp 20))⟩, ⟨(some 22), (some (21, true)), (.mv (.tmp 2))⟩, ⟨(some 23), (some (21, true)), (.iaddr 1 none (.tmp 22) (.const (.int .i64 (3))))⟩, ⟨(some 24), (some (21, true)), (.load 1 false (.tmp 23))⟩, ⟨(some 25), (some (21, true)), (.bin .eql (.tmp 24) (.const (.int .i64 (5))))⟩, ⟨(some 26), none, (.pick (.tmp 21) (.tmp 25) (.const (.bool false)))⟩, ⟨(some 27), none, (.mv (.tmp 26))⟩, ⟨(some 28), (some (27, true)), (.mv (.tmp 2))⟩, ⟨(some 29), (some (27, true)), (.iaddr 1 none (.tmp 28) (.const (.int .i64 (4))))⟩, ⟨(some 30), (some (27, true)), (.load 1 false (.tmp 29))⟩, ⟨(some 31), (some (27, true)), (.bin .eql (.tmp 30) (.const (.int .i64 (6))))⟩, ⟨(some 32), none, (.pick (.tmp 27) (.tmp 31) (.const (.bool false)))⟩, ⟨(some 33), none, (.mv (.tmp 32))⟩, ⟨(some 34), (some (33, true)), (.mv (.tmp 3))⟩, ⟨(some 35), (some (33, true)), (.bin .eql (.tmp 34) (.const (.int .i64 (5))))⟩, ⟨(some 36), none, (.pick (.tmp 33) (.tmp 35) (.const (.bool false)))⟩, ⟨(some 37), none, (.mv (.tmp 36))⟩, ⟨(some 38), (some (37, true)), (.load 3 true (.tmp 4))⟩, ⟨(some 39), (some (37, true)), (.callf (.func 48) [(.tmp 38)])⟩, ⟨(some 40), (some (37, true)), (.bin .eql (.tmp 39) (.const (.string ⟨#[51]⟩)))⟩, ⟨(some 41), none, (.pick (.tmp 37) (.tmp 40) (.const (.bool false)))⟩, ⟨(some 42), none, (.mv (.tmp 41))⟩, ⟨(some 43), (some (42, true)), (.mv (.tmp 1))⟩, ⟨(some 44), (some (42, true)), (.callf (.func 30) [(.tmp 43)])⟩, ⟨(some 45), none, (.pick (.tmp 42) (.tmp 44) (.const (.bool false)))⟩, ⟨(some 46), none, (.mv (.tmp 45))⟩, ⟨(some 47), (some (46, true)), (.mv (.tmp 1))⟩, ⟨(some 48), (some (46, true)), (.callf (.func 33) [(.tmp 47), (.const (.int .i64 (5)))])⟩, ⟨(some 49), none, (.pick (.tmp 46) (.tmp 48) (.const (.bool false)))⟩, ⟨(some 0), none, (.mv (.tmp 49))⟩]) .ret)))))
theorem cc29 : ccode Tryd.prog [] (Tryd.f29.body.getD .skip) = some c29 := by kernel_rfl
theorem body29 : Tryd.f29.body = some (Tryd.f29.body.getD .skip) := rfl

theorem awake18_C : PureC Tryd.prog 29 [] (.ret (aB true)) := by
  have i1 := ints_R [2, 1, 1] (by decide) (by decide)
  change PureC _ _ _ (.ret (aV (some [rawQ 2, rawQ 1, rawQ 1]))) at i1
  have f1 : FitsV awV 3 2 := ⟨Nat.le_refl _, fun r hr => by
    rw [osl_some] at hr
    rcases List.mem_cons.1 hr with rfl | hr
    · exact fits_rawQ (fits_int 2 (by decide) (by decide))
    · rcases List.mem_cons.1 hr with rfl | hr
      · exact fits_rawQ (fits_int 1 (by decide) (by decide))
      · rw [List.mem_singleton.1 hr]; exact fits_rawQ (fits_int 1 (by decide) (by decide))⟩
  have ha := all_C 10 awL awR
  rw [aw_all] at ha
  have hb := pbest_C 10 awL awR awV 3 2 f1 (by decide) (by decide) (by decide)
  rw [aw_best] at hb
  have ht := rtext_C (rawQ 3) (fits_rawQ ((fits_int 3 (by decide) (by decide)).mono (by decide)))
  rw [rawQ_val, text3] at ht
  have hr := pright_C awR
  rw [aw_right] at hr
  have hk := keeps_C awR 5 (by decide)
  rw [aw_keeps] at hk
  change PureC _ _ [aI 10, aWs (some [6, 5, 4]), aRl (some [⟨0, 1, false⟩])] _ at ha
  change PureC _ _ [aI 10, aWs (some [6, 5, 4]), aRl (some [⟨0, 1, false⟩]), aV (some [rawQ 2, rawQ 1, rawQ 1])] (.ret (.tup [aI 5, aR (rawQ 3)])) at hb
  change PureC _ _ [aRl (some [⟨0, 1, false⟩])] _ at hr
  change PureC _ _ [aRl (some [⟨0, 1, false⟩]), aI 5] _ at hk
  have hfl : flatAV (.tup [aI 5, aR (rawQ 3)]) = false := by decide +kernel
  clear f1
  generalize rawQ 2 = q2 at *
  generalize rawQ 1 = q1 at *
  generalize rawQ 3 = q3 at *
  refine pureC_of (rs := [(RV.tmp 0)]) Tryd.func29 (fun a w => Tryd.call29 a w) body29 cc29 (by kernel_rfl) ?_
  rw [Tryd.ntmps29]
  simp only [frs, Nat.reduceAdd, Nat.reduceSub]
  repeat (first | (with_reducible first | refine Way.imp ?_ | refine blk_o rfl ?_) | ((with_reducible refine WayR.imp (fun K hK => ?_)); simp (disch := first | omega | (simp only [dls]; omega)) only [std, reduceIte, reduceCtorEq, Int.reduceToNat, Nat.reduceAdd, Nat.reduceSub, Nat.reduceMul, Int.reduceAdd, Int.reduceSub, Int.reduceMul, Int.reduceNeg, fU, litW3, litR1, fR, fI, List.getElem_cons_succ, List.getElem_cons_zero]; subst hK) | (apply call_ret (ids := [1,0]) (ha) rfl; (case hcl => (simp only [evs, St.ev, constAV, evl]; (repeat (first | exact closeAVs_nil | (apply closeAVs_cons; (first | (refine close_own3 rfl (by decide)) | (refine close_ownO rfl (by decide) ?_; assumption) | rfl)))); done)); (case hf => rfl); (case hu => rfl); (case hh => ((simp only [fzl, Nat.reduceBEq, Nat.reduceAdd, Bool.false_eq_true, if_true, if_false, reduceIte]) <;> rfl))) | (apply call_ret (i1) rfl; (case hcl => (simp only [evs, St.ev, constAV, evl]; (repeat (first | exact closeAVs_nil | (apply closeAVs_cons; (first | (refine close_own3 rfl (by decide)) | (refine close_ownO rfl (by decide) ?_; assumption) | rfl)))); done)); (case hf => rfl); (case hu => (simp only [evs, St.ev, constAV, evl]; (repeat (first | exact used_nil | (apply used_cons; (first | (apply used_own3; rfl) | rfl)))); done)); (case hh => ((simp only [fzl, Nat.reduceBEq, Nat.reduceAdd, Bool.false_eq_true, if_true, if_false, reduceIte]) <;> rfl))) | (apply call_ret (ids := [2,0]) (hb) rfl; (case hcl => (simp only [evs, St.ev, constAV, evl]; (repeat (first | exact closeAVs_nil | (apply closeAVs_cons; (first | (refine close_own3 rfl (by decide)) | (refine close_ownO rfl (by decide) ?_; assumption) | rfl)))); done)); (case hf => exact hfl ..); (case hu => rfl); (case hh => ((simp only [fzl, Nat.reduceBEq, Nat.reduceAdd, Bool.false_eq_true, if_true, if_false, reduceIte]) <;> rfl))) | (apply call_any_g (ht) rfl; (case hg => simp (disch := first | omega | (simp only [dls]; omega)) only [std, reduceIte, reduceCtorEq, Int.reduceToNat, Nat.reduceAdd, Nat.reduceSub, Nat.reduceMul, Int.reduceAdd, Int.reduceSub, Int.reduceMul, Int.reduceNeg, fU, litW3, litR1, fR, fI, List.getElem_cons_succ, List.getElem_cons_zero]); (case hcl => (simp only [evs, St.ev, constAV, evl]; (repeat (first | exact closeAVs_nil | (apply closeAVs_cons; (first | (refine close_own3 rfl (by decide)) | (refine close_ownO rfl (by decide) ?_; assumption) | rfl)))); done)); (case hu => rfl)) | (apply call_flat_g (by simp (disch := first | omega | (simp only [dls]; omega)) only [std, reduceIte, reduceCtorEq, Int.reduceToNat, Nat.reduceAdd, Nat.reduceSub, Nat.reduceMul, Int.reduceAdd, Int.reduceSub, Int.reduceMul, Int.reduceNeg, fU, litW3, litR1, fR, fI, List.getElem_cons_succ, List.getElem_cons_zero]) (hr) rfl; (case hcl => (simp only [evs, St.ev, constAV, evl]; (repeat (first | exact closeAVs_nil | (apply closeAVs_cons; (first | (refine close_own3 rfl (by decide)) | (refine close_ownO rfl (by decide) ?_; assumption) | rfl)))); done)); (case hf => rfl)) | (apply call_flat_g (by simp (disch := first | omega | (simp only [dls]; omega)) only [std, reduceIte, reduceCtorEq, Int.reduceToNat, Nat.reduceAdd, Nat.reduceSub, Nat.reduceMul, Int.reduceAdd, Int.reduceSub, Int.reduceMul, Int.reduceNeg, fU, litW3, litR1, fR, fI, List.getElem_cons_succ, List.getElem_cons_zero]) (hk) rfl; (case hcl => (simp only [evs, St.ev, constAV, evl]; (repeat (first | exact closeAVs_nil | (apply closeAVs_cons; (first | (refine close_own3 rfl (by decide)) | (refine close_ownO rfl (by decide) ?_; assumption) | rfl)))); done)); (case hf => rfl)))
  exact ⟨_, rfl, rfl⟩

end Go.Proofs.YtdhkdnmefeeclaaDoor
