/- The law PatternOnes: what it counts; the walk. -/
import Derived.Test.YtdhkdnmefeeclaaDoorUD
set_option linter.unusedSimpArgs false
set_option linter.unusedVariables false
set_option linter.unnecessarySimpa false
set_option linter.unusedSimpArgs false
set_option linter.unusedVariables false
set_option maxRecDepth 100000
set_option maxHeartbeats 4000000
namespace Go.Proofs.YtdhkdnmefeeclaaDoor
open Go Go.Am Go.Proofs Go.RowKit Go.Off

def cntN (m s : Nat) : Nat := (bitsTo s m).length
def mostL (m : Nat) (L : List Nat) : Nat := L.foldl (fun M s => if M < cntN m s then cntN m s else M) 0
def onesL (m : Nat) (L : List Nat) : Nat := (L.filter (fun s => cntN m s == 1)).length
theorem mostL_snoc (m : Nat) (L : List Nat) (s : Nat) : mostL m (L ++ [s]) = if mostL m L < cntN m s then cntN m s else mostL m L := by unfold mostL; rw [List.foldl_append]; rfl
theorem onesL_snoc (m : Nat) (L : List Nat) (s : Nat) : onesL m (L ++ [s]) = if cntN m s = 1 then onesL m L + 1 else onesL m L := by
  unfold onesL
  rw [List.filter_append, List.length_append]
  by_cases h : cntN m s = 1
  · rw [if_pos h, List.filter_cons_of_pos (by simp [h])]; rfl
  · rw [if_neg h, List.filter_cons_of_neg (by simp [h])]; rfl
theorem cntN_succ (s k : Nat) : cntN (k + 1) s = if bitN s k then cntN k s + 1 else cntN k s := by
  unfold cntN
  rw [bitsTo_succ]
  split
  · rw [List.length_append]; rfl
  · rw [List.append_nil]
theorem cntN_le (s k : Nat) : cntN k s ≤ k := by
  unfold cntN bitsTo
  have := List.length_filter_le (bitN s) (List.range k)
  rwa [List.length_range] at this
theorem cnt_eight : ∀ m, m ≤ 8 → ((List.range (2 ^ m)).filter (fun s => cntN m s == 1)).length = m := by decide +kernel

/-- Of the sets of one alone, each is a pattern. -/
theorem ones_pat {roll : Int} {l : WI} (h : mayB roll l = true) (h8 : (osl l).length ≤ 8) : onesL (osl l).length (patsL roll l none) = (osl l).length := by
  have hm := may_of h
  unfold onesL patsL
  rw [if_pos h]
  unfold patL patTo
  rw [List.filter_filter]
  refine (congrArg List.length (List.filter_congr ?_)).trans (cnt_eight _ h8)
  intro s hs
  have hs2 : s < 2 ^ (osl l).length := List.mem_range.1 hs
  cases hc : (cntN (osl l).length s == 1) with
  | false => rfl
  | true =>
    rw [Bool.true_and]
    have hc1 : (bitsTo s (osl l).length).length = 1 := by simpa [cntN] using hc
    have hit := items_to hs2 (by omega)
    obtain ⟨k, hk⟩ := List.length_eq_one_iff.1 hc1
    have hkl : k < (osl l).length := items_below hs2 k (by rw [hit, hk]; exact List.mem_singleton.2 rfl)
    have h0 : 0 < s := by
      rcases Nat.eq_zero_or_pos s with h0 | h0
      · subst h0
        rw [← hit, items_zero] at hc1
        cases hc1
      · exact h0
    have hw : wideN l s = iAt l k := by
      unfold wideN
      rw [hit, hk]
      unfold wideL
      show 0 + iAt l k = _
      omega
    obtain ⟨w1, w2⟩ := hm.wid k hkl
    have hkb : keepsB none s = true := by
      unfold keepsB
      have h1 : rightRl none = true := by decide
      rw [h1, decide_eq_true (by omega : (0 : Int) ≤ (s : Int))]
      rfl
    unfold isPat
    rw [decide_eq_true h0, hkb]
    unfold fitsB
    rw [h, decide_eq_true (by omega : (0 : Int) ≤ (s : Int)), decide_eq_true (by exact_mod_cast hs2), Int.toNat_natCast, hw]
    rw [decide_eq_true w2]
    rfl

end Go.Proofs.YtdhkdnmefeeclaaDoor
set_option linter.unusedSimpArgs false
set_option linter.unusedVariables false
set_option maxRecDepth 100000
set_option maxHeartbeats 4000000
namespace Go.Proofs.YtdhkdnmefeeclaaDoor
open Go Go.Am Go.Proofs Go.RowKit Go.Off

abbrev onesV : VV := some [rawQ 1, rawQ 1, rawQ 1, rawQ 1, rawQ 1, rawQ 1, rawQ 1, rawQ 1]
theorem onesV_rep : osl onesV = List.replicate 8 (rawQ 1) := rfl
theorem onesV_q {k : Nat} (h : k < 8) : qAt onesV k = 1 := by
  have h2 : k < (osl onesV).length := h
  unfold qAt
  rw [rAt_in h2]
  have : (osl onesV)[k] = rawQ 1 := by simp only [onesV_rep, List.getElem_replicate]
  rw [this, rawQ_val]
theorem onesV_fits : FitsV onesV 8 2 := ⟨Nat.le_refl _, fun r hr => by
  rw [onesV_rep] at hr
  rw [(List.mem_replicate.1 hr).2]
  exact fits_rawQ (fits_int 1 (by decide) (by decide))⟩
theorem ones_fold : ∀ (ks : List Nat) (a : Rat), (∀ k ∈ ks, k < 8) → ks.foldl (fun s k => s + qAt onesV k) a = a + ((ks.length : Nat) : Rat)
  | [], a, _ => (Rat.add_zero a).symm
  | k :: ks, a, h => by
    rw [List.foldl_cons, ones_fold ks _ (fun x hx => h x (List.mem_cons_of_mem _ hx)), onesV_q (h k (List.mem_cons_self ..)), List.length_cons]
    rw [Rat.natCast_add, Rat.add_assoc, Rat.add_comm 1]
    rfl
theorem ones_worth {m s : Nat} (hs : s < 2 ^ m) (h8 : m ≤ 8) : worthN onesV s = ((cntN m s : Nat) : Rat) := by
  unfold worthN worthL
  rw [ones_fold _ _ (fun k hk => by have := items_below hs k hk; omega), items_to hs (by omega), Rat.zero_add]
  rfl
theorem ones_best {m : Nat} (h8 : m ≤ 8) (P : List Nat) (hP : ∀ s ∈ P, s < 2 ^ m ∧ 0 < s) : ∀ n, n ≤ P.length → ((bestP onesV (P.take n)).1 = 0 → mostL m (P.take n) = 0) ∧ (bestP onesV (P.take n)).2 = ((mostL m (P.take n) : Nat) : Rat)
  | 0, _ => ⟨fun _ => rfl, rfl⟩
  | n + 1, hn => by
    obtain ⟨h1, h2⟩ := ones_best h8 P hP n (by omega)
    obtain ⟨p1, p2⟩ := hP _ (List.getElem_mem (show n < P.length by omega))
    rw [List.take_succ_eq_append_getElem (by omega), bestP_snoc, mostL_snoc]
    have hw := ones_worth p1 h8
    generalize P[n] = s at *
    generalize bestP onesV (P.take n) = b at *
    generalize mostL m (P.take n) = M at *
    unfold stepP
    rw [hw, h2]
    have hlt : ((M : Nat) : Rat) < ((cntN m s : Nat) : Rat) ↔ M < cntN m s := by exact_mod_cast Iff.rfl
    by_cases hb : b.1 = 0
    · rw [if_pos (.inl hb)]
      have hM := h1 hb
      refine ⟨fun h => by dsimp only at h; omega, ?_⟩
      dsimp only
      split
      · rfl
      · rw [show cntN m s = M by omega]
    · by_cases hc : M < cntN m s
      · rw [if_pos (.inr (hlt.2 hc)), if_pos hc]
        exact ⟨fun h => by dsimp only at h; omega, rfl⟩
      · rw [if_neg (fun h => by rcases h with h | h; exact hb h; exact hc (hlt.1 h)), if_neg hc]
        exact ⟨fun h => absurd h hb, h2⟩
theorem ones_value {m : Nat} (h8 : m ≤ 8) (P : List Nat) (hP : ∀ s ∈ P, s < 2 ^ m ∧ 0 < s) : (bestP onesV P).2 = ((mostL m P : Nat) : Rat) := by
  have := (ones_best h8 P hP P.length (Nat.le_refl _)).2
  rwa [List.take_length] at this
theorem mostL_le (m : Nat) (L : List Nat) : mostL m L ≤ m := by
  have key : ∀ n, n ≤ L.length → mostL m (L.take n) ≤ m := by
    intro n
    induction n with
    | zero => intro _; exact Nat.zero_le _
    | succ n ih =>
      intro hn
      rw [List.take_succ_eq_append_getElem (by omega), mostL_snoc]
      split
      · exact cntN_le _ _
      · exact ih (by omega)
  have := key L.length (Nat.le_refl _)
  rwa [List.take_length] at this
theorem onesL_le (m : Nat) (L : List Nat) : onesL m L ≤ L.length := List.length_filter_le _ _
theorem litW8 (a b c d e f g h : Int) : [[Cell.c (.val (.int .i64 a))], [Cell.c (.val (.int .i64 b))], [Cell.c (.val (.int .i64 c))], [Cell.c (.val (.int .i64 d))], [Cell.c (.val (.int .i64 e))], [Cell.c (.val (.int .i64 f))], [Cell.c (.val (.int .i64 g))], [Cell.c (.val (.int .i64 h))]] = encB fI [a, b, c, d, e, f, g, h] := rfl
theorem pats_pow {roll : Int} {l : WI} {r : RL} : ∀ s ∈ patsL roll l r, s < 2 ^ (osl l).length ∧ 0 < s := fun s hs => by
  unfold patsL at hs
  split at hs
  · unfold patL patTo at hs
    obtain ⟨h1, h2⟩ := List.mem_filter.1 hs
    refine ⟨List.mem_range.1 h1, ?_⟩
    unfold isPat at h2
    simp only [Bool.and_eq_true, decide_eq_true_eq] at h2
    exact h2.1
  · cases hs

abbrev c11_k1 : CC := (.seq (.reg [⟨(some 53), none, (.mv (.tmp 0))⟩, ⟨(some 54), none, (.mv (.tmp 1))⟩, ⟨(some 55), none, (.mkrow 3 1 [(.const (.int .i64 (1))), (.const (.int .i64 (1))), (.const (.int .i64 (1))), (.const (.int .i64 (1))), (.const (.int .i64 (1))), (.const (.int .i64 (1))), (.const (.int .i64 (1))), (.const (.int .i64 (1)))])⟩, ⟨(some 56), none, (.callf (.func 40) [(.tmp 55)])⟩, ⟨(some 57), none, (.callf (.func 39) [(.tmp 53), (.tmp 54), (.const (.slice none 0 0)), (.tmp 56)])⟩, ⟨(some 52), none, (.mv (.tmp 57))⟩, ⟨(some 58), none, (.ext (.tmp 52) 0)⟩, ⟨(some 59), none, (.ext (.tmp 52) 1)⟩, ⟨(some 13), none, (.new 45 [(.bool false), (.slice none 0 0), (.slice none 0 0)])⟩, ⟨(some 12), none, (.mv (.tmp 58))⟩, ⟨none, none, (.store 3 (.tmp 13) (.tmp 59))⟩]) (.seq (.reg [⟨(some 60), none, (.mv (.tmp 7))⟩, ⟨(some 61), none, (.mv (.tmp 1))⟩, ⟨(some 62), none, (.len false (.tmp 61))⟩, ⟨(some 63), none, (.bin .eql (.tmp 60) (.tmp 62))⟩, ⟨(some 64), none, (.mv (.tmp 63))⟩, ⟨(some 65), (some (64, true)), (.load 3 true (.tmp 13))⟩, ⟨(some 66), (some (64, true)), (.mv (.tmp 6))⟩, ⟨(some 67), (some (64, true)), (.callf (.func 26) [(.tmp 66)])⟩, ⟨(some 68), (some (64, true)), (.callf (.func 25) [(.tmp 65), (.tmp 67)])⟩, ⟨(some 69), (some (64, true)), (.bin .eql (.tmp 68) (.const (.int .i64 (0))))⟩, ⟨(some 70), none, (.pick (.tmp 64) (.tmp 69) (.const (.bool false)))⟩, ⟨(some 71), none, (.mv (.tmp 70))⟩, ⟨(some 72), (some (71, true)), (.callf (.func 29) [])⟩, ⟨(some 73), none, (.pick (.tmp 71) (.tmp 72) (.const (.bool false)))⟩, ⟨(some 4), none, (.mv (.tmp 73))⟩]) .ret))
abbrev c11_k2 : CC := (.reg [⟨(some 51), none, (.bin .add (.tmp 29) (.const (.int .i64 (1))))⟩, ⟨(some 29), none, (.mv (.tmp 51))⟩])
abbrev c11_k3 : CC := (.seq (.reg [⟨(some 44), none, (.mv (.tmp 6))⟩, ⟨(some 45), none, (.mv (.tmp 10))⟩, ⟨(some 46), none, (.mm true (.tmp 44) (.tmp 45))⟩, ⟨(some 6), none, (.mv (.tmp 46))⟩]) (.seq (.reg [⟨(some 47), none, (.mv (.tmp 10))⟩, ⟨(some 48), none, (.bin .eql (.tmp 47) (.const (.int .i64 (1))))⟩]) (.cond (.tmp 48) (.reg [⟨(some 49), none, (.mv (.tmp 7))⟩, ⟨(some 50), none, (.bin .add (.tmp 49) (.const (.int .i64 (1))))⟩, ⟨(some 7), none, (.mv (.tmp 50))⟩]) .skip)))
abbrev c11_b1 : CC := (.seq (.reg [⟨(some 36), none, (.bin .lss (.tmp 35) (.tmp 34))⟩]) (.seq (.cond (.tmp 36) .skip (.exit 2)) (.seq (.block 3 (.seq (.reg [⟨(some 37), none, (.mv (.tmp 35))⟩, ⟨(some 11), none, (.mv (.tmp 37))⟩]) (.seq (.reg [⟨(some 38), none, (.mv (.tmp 9))⟩, ⟨(some 39), none, (.mv (.tmp 11))⟩, ⟨(some 40), none, (.callf (.func 37) [(.tmp 38), (.tmp 39)])⟩]) (.cond (.tmp 40) (.reg [⟨(some 41), none, (.mv (.tmp 10))⟩, ⟨(some 42), none, (.bin .add (.tmp 41) (.const (.int .i64 (1))))⟩, ⟨(some 10), none, (.mv (.tmp 42))⟩]) .skip)))) (.reg [⟨(some 43), none, (.bin .add (.tmp 35) (.const (.int .i64 (1))))⟩, ⟨(some 35), none, (.mv (.tmp 43))⟩]))))
abbrev c11_b2 : CC := (.seq (.reg [⟨(some 30), none, (.bin .lss (.tmp 29) (.tmp 28))⟩]) (.seq (.cond (.tmp 30) .skip (.exit 0)) (.seq (.block 1 (.seq (.reg [⟨(some 31), none, (.iaddr 1 none (.tmp 27) (.tmp 29))⟩, ⟨(some 32), none, (.load 1 false (.tmp 31))⟩, ⟨(some 9), none, (.mv (.tmp 32))⟩]) (.seq (.reg [⟨(some 10), none, (.mv (.const (.int .i64 (0))))⟩]) (.seq (.seq (.reg [⟨(some 33), none, (.mv (.tmp 1))⟩, ⟨(some 34), none, (.len false (.tmp 33))⟩, ⟨(some 35), none, (.mv (.const (.int .i64 (0))))⟩]) (.block 2 (.loop c11_b1))) c11_k3)))) c11_k2)))
abbrev c11 : CC := (.seq (.reg [⟨(some 4), none, (.mv (.const (.bool false)))⟩]) (.seq (.seq (.reg [⟨(some 14), none, (.mv (.tmp 1))⟩, ⟨(some 15), none, (.len false (.tmp 14))⟩, ⟨(some 16), none, (.bin .gtr (.tmp 15) (.const (.int .i64 (8))))⟩, ⟨(some 17), none, (.mv (.tmp 16))⟩, ⟨(some 18), (some (17, false)), (.mv (.tmp 0))⟩, ⟨(some 19), (some (17, false)), (.mv (.tmp 1))⟩, ⟨(some 20), (some (17, false)), (.callf (.func 38) [(.tmp 18), (.tmp 19)])⟩, ⟨(some 21), (some (17, false)), (.un .not (.tmp 20))⟩, ⟨(some 22), none, (.pick (.tmp 17) (.const (.bool true)) (.tmp 21))⟩]) (.cond (.tmp 22) (.seq (.reg [⟨(some 23), none, (.callf (.func 29) [])⟩, ⟨(some 4), none, (.mv (.tmp 23))⟩]) .ret) .skip)) (.seq (.reg [⟨(some 24), none, (.mv (.tmp 0))⟩, ⟨(some 25), none, (.mv (.tmp 1))⟩, ⟨(some 26), none, (.callf (.func 35) [(.tmp 24), (.tmp 25), (.const (.slice none 0 0))])⟩, ⟨(some 5), none, (.mv (.tmp 26))⟩]) (.seq (.reg [⟨(some 6), none, (.mv (.const (.int .i64 (0))))⟩, ⟨(some 7), none, (.mv (.const (.int .i64 (0))))⟩]) (.seq (.seq (.reg [⟨(some 27), none, (.mv (.tmp 5))⟩, ⟨(some 28), none, (.len false (.tmp 27))⟩, ⟨(some 29), none, (.mv (.const (.int .i64 (0))))⟩]) (.block 0 (.loop c11_b2))) c11_k1)))))
theorem cc11 : ccode Tryd.prog [] (Tryd.f11.body.getD .skip) = some c11 := by kernel_rfl
theorem body11 : Tryd.f11.body = some (Tryd.f11.body.getD .skip) := rfl

theorem patternOnes_C (roll : Int) (l : WI) : PureC Tryd.prog 11 [aI roll, aWs l] (.ret (aB true)) := by
  have haw := awake18_C
  have hmay := may17_C roll l
  by_cases h8 : (osl l).length ≤ 8
  rotate_left
  · refine pureC_of (rs := [(RV.tmp 4)]) Tryd.func11 (fun a w => Tryd.call11 a w) body11 cc11 (by kernel_rfl) ?_
    rw [Tryd.ntmps11]
    simp only [frs, Nat.reduceAdd, Nat.reduceSub]
    repeat (first | (with_reducible first | refine Way.imp ?_ | refine blk_o rfl ?_) | ((with_reducible refine WayR.imp (fun K hK => ?_)); simp (disch := first | omega | (simp only [dls]; omega)) only [std, reduceIte, reduceCtorEq, Int.reduceToNat, Nat.reduceAdd, Nat.reduceSub, Nat.reduceMul, Int.reduceAdd, Int.reduceSub, Int.reduceMul, Int.reduceNeg, fU, h8, show (8 < (osl l).length) from by omega]; subst hK) | refine zcA (haw) rfl rfl rfl ?_)
    exact ⟨_, rfl, rfl⟩
  cases c2 : mayB roll l with
  | false =>
    rw [c2] at hmay
    refine pureC_of (rs := [(RV.tmp 4)]) Tryd.func11 (fun a w => Tryd.call11 a w) body11 cc11 (by kernel_rfl) ?_
    rw [Tryd.ntmps11]
    simp only [frs, Nat.reduceAdd, Nat.reduceSub]
    repeat (first | (with_reducible first | refine Way.imp ?_ | refine blk_o rfl ?_) | ((with_reducible refine WayR.imp (fun K hK => ?_)); simp (disch := first | omega | (simp only [dls]; omega)) only [std, reduceIte, reduceCtorEq, Int.reduceToNat, Nat.reduceAdd, Nat.reduceSub, Nat.reduceMul, Int.reduceAdd, Int.reduceSub, Int.reduceMul, Int.reduceNeg, fU, h8, show ¬ (8 < (osl l).length) from by omega]; subst hK) | (apply call_any_g (hmay) rfl; (case hg => simp (disch := first | omega | (simp only [dls]; omega)) only [std, reduceIte, reduceCtorEq, Int.reduceToNat, Nat.reduceAdd, Nat.reduceSub, Nat.reduceMul, Int.reduceAdd, Int.reduceSub, Int.reduceMul, Int.reduceNeg, fU, h8, show ¬ (8 < (osl l).length) from by omega]); (case hcl => (simp only [evs, St.ev, constAV, evl]; (repeat (first | exact closeAVs_nil | (apply closeAVs_cons; (first | (refine close_own3 rfl (by decide)) | (refine close_ownO rfl (by decide) ?_; assumption) | rfl)))); done)); (case hu => rfl)) | refine zcA (haw) rfl rfl rfl ?_)
    exact ⟨_, rfl, rfl⟩
  | true =>
  rw [c2] at hmay
  have hones := ones_pat c2 h8
  have hall := all_C roll l none
  have hb := pbest_C roll l none onesV 8 2 onesV_fits (by decide) (by decide) (by decide)
  have hoa := osl_allV roll l none
  have hpw := pats_pow (roll := roll) (l := l) (r := none)
  have hpl := pats_len roll l none
  generalize patsL roll l none = P at *
  generalize allV roll l none = W at *
  have hval := ones_value h8 P hpw
  have hmle := mostL_le (osl l).length P
  have hole := onesL_le (osl l).length P
  have hint := rint_C ((mostL (osl l).length P : Nat) : Int) (by omega) (by omega)
  rw [Rat.intCast_natCast, ← hval] at hint
  have hfB := best_fits onesV_fits (by decide) P
  have hcm := rcompare_C (rawQ (bestP onesV P).2) (rawQ (bestP onesV P).2) (fits_rawQ (hfB.mono (by decide))) (fits_rawQ (hfB.mono (by decide)))
  have hcz : cmpQ ((rawQ (bestP onesV P).2).val) ((rawQ (bestP onesV P).2).val) = 0 := by unfold cmpQ; simp [Rat.lt_irrefl]
  rw [hcz] at hcm
  have i1 := ints_R [1, 1, 1, 1, 1, 1, 1, 1] (by decide) (by decide)
  change PureC _ _ _ (.ret (aV onesV)) at i1
  change PureC _ _ [aI roll, aWs l, .one (.c (.val (.slice none 0 0)))] _ at hall
  change PureC _ _ [aI roll, aWs l, .one (.c (.val (.slice none 0 0))), aV onesV] _ at hb
  have hWl : (osl W).length = P.length := by rw [hoa]; unfold natI; rw [List.length_map]
  have hWi : ∀ i (h : i < (osl W).length), (osl W)[i] = ((P[i]'(by rw [← hWl]; exact h) : Nat) : Int) := fun i h => by simp [hoa, natI]
  have hm0 : mostL (osl l).length (P.take 0) = 0 := rfl
  have ho0 : onesL (osl l).length (P.take 0) = 0 := rfl
  refine pureC_of (rs := [(RV.tmp 4)]) Tryd.func11 (fun a w => Tryd.call11 a w) body11 cc11 (by kernel_rfl) ?_
  rw [Tryd.ntmps11]
  simp only [frs, Nat.reduceAdd, Nat.reduceSub]
  repeat (first | (with_reducible first | refine Way.imp ?_ | refine blk_o rfl ?_) | ((with_reducible refine WayR.imp (fun K hK => ?_)); simp (disch := first | omega | (simp only [dls]; omega)) only [std, reduceIte, reduceCtorEq, Int.reduceToNat, Nat.reduceAdd, Nat.reduceSub, Nat.reduceMul, Int.reduceAdd, Int.reduceSub, Int.reduceMul, Int.reduceNeg, fU, h8, hWl, show ¬ (8 < (osl l).length) from by omega]; subst hK) | (apply call_any_g (hmay) rfl; (case hg => simp (disch := first | omega | (simp only [dls]; omega)) only [std, reduceIte, reduceCtorEq, Int.reduceToNat, Nat.reduceAdd, Nat.reduceSub, Nat.reduceMul, Int.reduceAdd, Int.reduceSub, Int.reduceMul, Int.reduceNeg, fU, h8, hWl, show ¬ (8 < (osl l).length) from by omega]); (case hcl => (simp only [evs, St.ev, constAV, evl]; (repeat (first | exact closeAVs_nil | (apply closeAVs_cons; (first | (refine close_own3 rfl (by decide)) | (refine close_ownO rfl (by decide) ?_; assumption) | rfl)))); done)); (case hu => rfl)) | refine zcA (haw) rfl rfl rfl ?_ | refine zcA (hall) rfl rfl rfl ?_)
  refine awp_loop (fun (zz : Nat × Nat × Nat) => ⟨(aI roll :: aWs l :: .junk :: .junk :: .junk :: .junk :: aI zz.2.1 :: aI zz.2.2 :: .junk :: .junk :: .junk :: .junk :: .junk :: .junk :: .junk :: .junk :: .junk :: .junk :: .junk :: .junk :: .junk :: .junk :: .junk :: .junk :: .junk :: .junk :: .junk :: aWs W :: aI P.length :: aI zz.1 :: .junk :: .junk :: .junk :: .junk :: .junk :: .junk :: .junk :: .junk :: .junk :: .junk :: .junk :: .junk :: .junk :: .junk :: .junk :: .junk :: .junk :: .junk :: .junk :: .junk :: .junk :: .junk :: .junk :: .junk :: .junk :: .junk :: .junk :: .junk :: .junk :: .junk :: .junk :: .junk :: .junk :: .junk :: .junk :: .junk :: .junk :: .junk :: .junk :: .junk :: .junk :: .junk :: .junk :: .junk :: []), []⟩) (fun (zz : Nat × Nat × Nat) => zz.1 ≤ P.length ∧ zz.2.1 = mostL (osl l).length (P.take zz.1) ∧ zz.2.2 = onesL (osl l).length (P.take zz.1)) (fun (zz : Nat × Nat × Nat) => P.length - zz.1) (0, 0, 0) ?hI1 (Fgt.head (Nat.le_refl _) [true, true, false, false, false, false, true, true, false, false, false, false, false, false, false, false, false, false, false, false, false, false, false, false, false, false, false, true, true, true] ?hT1 ?hH1) ?hB1
  case hT1 => first | (simp (disch := omega) only [hds, liveT, cleanAV, cleanCell, clean1, cleanBlk, reduceIte, Int.reduceSub, Int.reduceAdd, Int.reduceNeg]; done) | rfl
  case hH1 => first | (simp (disch := omega) only [hds, liveT, cleanAV, cleanCell, clean1, cleanBlk, reduceIte, Int.reduceSub, Int.reduceAdd, Int.reduceNeg]; done) | rfl
  · dsimp only; exact ⟨Nat.zero_le _, hm0.symm, ho0.symm⟩
  rintro ⟨i, M, O⟩ ⟨hi, hM, hO⟩
  dsimp only at hi hM hO
  by_cases hie : i = P.length
  · rw [hie, List.take_length] at hM hO
    subst hM
    rw [hones] at hO
    subst hO
    generalize bestP onesV P = be at *
    obtain ⟨b9, m9⟩ := be
    dsimp only at hb hint hcm
    generalize mostL (osl l).length P = M at *
    clear hval hfB hcz
    change PureC _ _ _ (.ret (aV (some [rawQ 1, rawQ 1, rawQ 1, rawQ 1, rawQ 1, rawQ 1, rawQ 1, rawQ 1]))) at i1
    change PureC _ _ [aI roll, aWs l, .one (.c (.val (.slice none 0 0))), aV (some [rawQ 1, rawQ 1, rawQ 1, rawQ 1, rawQ 1, rawQ 1, rawQ 1, rawQ 1])] _ at hb
    generalize rawQ 1 = q1 at *
    repeat (first | (with_reducible first | refine Way.imp ?_ | refine blk_o rfl ?_) | ((with_reducible refine WayR.imp (fun K hK => ?_)); simp (disch := first | omega | (simp only [dls]; omega)) only [std, reduceIte, reduceCtorEq, Int.reduceToNat, Nat.reduceAdd, Nat.reduceSub, Nat.reduceMul, Int.reduceAdd, Int.reduceSub, Int.reduceMul, Int.reduceNeg, fU, litW8, fI]; subst hK) | (apply call_ret (i1) rfl; (case hcl => (simp only [evs, St.ev, constAV, evl]; (repeat (first | exact closeAVs_nil | (apply closeAVs_cons; (first | (refine close_own3 rfl (by decide)) | (refine close_ownO rfl (by decide) ?_; assumption) | rfl)))); done)); (case hf => rfl); (case hu => (simp only [evs, St.ev, constAV, evl]; (repeat (first | exact used_nil | (apply used_cons; (first | (apply used_own3; rfl) | rfl)))); done)); (case hh => ((simp only [fzl, Nat.reduceBEq, Nat.reduceAdd, Bool.false_eq_true, if_true, if_false, reduceIte]) <;> rfl))) | refine zcA (hb) rfl rfl rfl ?_ | refine zcA (hint) rfl rfl rfl ?_ | (apply call_any_g (hcm) rfl; (case hg => simp (disch := first | omega | (simp only [dls]; omega)) only [std, reduceIte, reduceCtorEq, Int.reduceToNat, Nat.reduceAdd, Nat.reduceSub, Nat.reduceMul, Int.reduceAdd, Int.reduceSub, Int.reduceMul, Int.reduceNeg, fU, litW8, fI]); (case hcl => (simp only [evs, St.ev, constAV, evl]; (repeat (first | exact closeAVs_nil | (apply closeAVs_cons; (first | (refine close_own3 rfl (by decide)) | (refine close_ownO rfl (by decide) ?_; assumption) | rfl)))); done)); (case hu => rfl)) | refine zcA (haw) rfl rfl rfl ?_)
    exact ⟨_, rfl, rfl⟩
  · have hlt : i < P.length := by omega
    have hltW : i < (osl W).length := by omega
    obtain ⟨p1, p2⟩ := hpw _ (List.getElem_mem hlt)
    have hp256 : P[i] < 4096 := Nat.lt_of_lt_of_le p1 (pow_4096 (by omega))
    have hms := mostL_snoc (osl l).length (P.take i) P[i]
    have hos := onesL_snoc (osl l).length (P.take i) P[i]
    rw [← List.take_succ_eq_append_getElem hlt, ← hM] at hms
    rw [← List.take_succ_eq_append_getElem hlt, ← hO] at hos
    have hOle := onesL_le (osl l).length (P.take i)
    rw [← hO, List.length_take] at hOle
    have hMle := mostL_le (osl l).length (P.take i)
    rw [← hM] at hMle
    have hwi := hWi i hltW
    generalize P[i] = s at *
    have hc0 : cntN 0 s = 0 := rfl
    repeat (first | (with_reducible first | refine Way.imp ?_ | refine blk_o rfl ?_) | ((with_reducible refine WayR.imp (fun K hK => ?_)); simp (disch := first | omega | (simp only [dls]; omega)) only [std, reduceIte, reduceCtorEq, Int.reduceToNat, Nat.reduceAdd, Nat.reduceSub, Nat.reduceMul, Int.reduceAdd, Int.reduceSub, Int.reduceMul, Int.reduceNeg, fU, fI, hWl, hwi]; subst hK))
    refine awp_loop (fun (zz : Nat) => ⟨(aI roll :: aWs l :: .junk :: .junk :: .junk :: .junk :: aI M :: aI O :: .junk :: aI s :: aI (cntN zz s) :: .junk :: .junk :: .junk :: .junk :: .junk :: .junk :: .junk :: .junk :: .junk :: .junk :: .junk :: .junk :: .junk :: .junk :: .junk :: .junk :: aWs W :: aI P.length :: aI i :: .junk :: .junk :: .junk :: .junk :: aI (osl l).length :: aI zz :: .junk :: .junk :: .junk :: .junk :: .junk :: .junk :: .junk :: .junk :: .junk :: .junk :: .junk :: .junk :: .junk :: .junk :: .junk :: .junk :: .junk :: .junk :: .junk :: .junk :: .junk :: .junk :: .junk :: .junk :: .junk :: .junk :: .junk :: .junk :: .junk :: .junk :: .junk :: .junk :: .junk :: .junk :: .junk :: .junk :: .junk :: .junk :: []), []⟩) (fun (zz : Nat) => zz ≤ (osl l).length) (fun (zz : Nat) => (osl l).length - zz) (0) ?hI2 (Fgt.head (Nat.le_refl _) (true :: true :: false :: false :: false :: false :: true :: true :: false :: true :: true :: false :: false :: false :: false :: false :: false :: false :: false :: false :: false :: false :: false :: false :: false :: false :: false :: true :: true :: true :: false :: false :: false :: false :: true :: true :: []) ?hT2 ?hH2) ?hB2
    case hT2 => first | (simp (disch := omega) only [hds, liveT, cleanAV, cleanCell, clean1, cleanBlk, reduceIte, Int.reduceSub, Int.reduceAdd, Int.reduceNeg, hc0]; done) | rfl
    case hH2 => first | (simp (disch := omega) only [hds, liveT, cleanAV, cleanCell, clean1, cleanBlk, reduceIte, Int.reduceSub, Int.reduceAdd, Int.reduceNeg, hc0]; done) | rfl
    · exact Nat.zero_le _
    rintro k hk
    have hcle := cntN_le s k
    by_cases hke : k = (osl l).length
    · subst hke
      generalize cntN (osl l).length s = c at *
      by_cases h1 : c = 1
      · rw [if_pos h1] at hos
        by_cases h2 : M < c
        · rw [if_pos h2] at hms
          repeat (first | (with_reducible first | refine Way.imp ?_ | refine blk_o rfl ?_) | ((with_reducible refine WayR.imp (fun K hK => ?_)); simp (disch := first | omega | (simp only [dls]; omega)) only [std, reduceIte, reduceCtorEq, Int.reduceToNat, Nat.reduceAdd, Nat.reduceSub, Nat.reduceMul, Int.reduceAdd, Int.reduceSub, Int.reduceMul, Int.reduceNeg, fU]; subst hK))
          refine ⟨(i + 1, c, O + 1), ?hI3, ?hM3, Fgt.head (Nat.le_refl _) [true, true, false, false, false, false, true, true, false, false, false, false, false, false, false, false, false, false, false, false, false, false, false, false, false, false, false, true, true, true] ?hT3 ?hH3⟩
          case hT3 => first | (simp (disch := omega) only [hds, liveT, cleanAV, cleanCell, clean1, cleanBlk, reduceIte, Int.reduceSub, Int.reduceAdd, Int.reduceNeg]; done) | rfl
          case hH3 => first | (simp (disch := omega) only [hds, liveT, cleanAV, cleanCell, clean1, cleanBlk, reduceIte, Int.reduceSub, Int.reduceAdd, Int.reduceNeg]; done) | rfl
          · dsimp only; exact ⟨hlt, hms.symm, hos.symm⟩
          · dsimp only; omega
        · rw [if_neg h2] at hms
          repeat (first | (with_reducible first | refine Way.imp ?_ | refine blk_o rfl ?_) | ((with_reducible refine WayR.imp (fun K hK => ?_)); simp (disch := first | omega | (simp only [dls]; omega)) only [std, reduceIte, reduceCtorEq, Int.reduceToNat, Nat.reduceAdd, Nat.reduceSub, Nat.reduceMul, Int.reduceAdd, Int.reduceSub, Int.reduceMul, Int.reduceNeg, fU]; subst hK))
          refine ⟨(i + 1, M, O + 1), ?hI4, ?hM4, Fgt.head (Nat.le_refl _) [true, true, false, false, false, false, true, true, false, false, false, false, false, false, false, false, false, false, false, false, false, false, false, false, false, false, false, true, true, true] ?hT4 ?hH4⟩
          case hT4 => first | (simp (disch := omega) only [hds, liveT, cleanAV, cleanCell, clean1, cleanBlk, reduceIte, Int.reduceSub, Int.reduceAdd, Int.reduceNeg]; done) | rfl
          case hH4 => first | (simp (disch := omega) only [hds, liveT, cleanAV, cleanCell, clean1, cleanBlk, reduceIte, Int.reduceSub, Int.reduceAdd, Int.reduceNeg]; done) | rfl
          · dsimp only; exact ⟨hlt, hms.symm, hos.symm⟩
          · dsimp only; omega
      · rw [if_neg h1] at hos
        by_cases h2 : M < c
        · rw [if_pos h2] at hms
          repeat (first | (with_reducible first | refine Way.imp ?_ | refine blk_o rfl ?_) | ((with_reducible refine WayR.imp (fun K hK => ?_)); simp (disch := first | omega | (simp only [dls]; omega)) only [std, reduceIte, reduceCtorEq, Int.reduceToNat, Nat.reduceAdd, Nat.reduceSub, Nat.reduceMul, Int.reduceAdd, Int.reduceSub, Int.reduceMul, Int.reduceNeg, fU]; subst hK))
          refine ⟨(i + 1, c, O), ?hI5, ?hM5, Fgt.head (Nat.le_refl _) [true, true, false, false, false, false, true, true, false, false, false, false, false, false, false, false, false, false, false, false, false, false, false, false, false, false, false, true, true, true] ?hT5 ?hH5⟩
          case hT5 => first | (simp (disch := omega) only [hds, liveT, cleanAV, cleanCell, clean1, cleanBlk, reduceIte, Int.reduceSub, Int.reduceAdd, Int.reduceNeg]; done) | rfl
          case hH5 => first | (simp (disch := omega) only [hds, liveT, cleanAV, cleanCell, clean1, cleanBlk, reduceIte, Int.reduceSub, Int.reduceAdd, Int.reduceNeg]; done) | rfl
          · dsimp only; exact ⟨hlt, hms.symm, hos.symm⟩
          · dsimp only; omega
        · rw [if_neg h2] at hms
          repeat (first | (with_reducible first | refine Way.imp ?_ | refine blk_o rfl ?_) | ((with_reducible refine WayR.imp (fun K hK => ?_)); simp (disch := first | omega | (simp only [dls]; omega)) only [std, reduceIte, reduceCtorEq, Int.reduceToNat, Nat.reduceAdd, Nat.reduceSub, Nat.reduceMul, Int.reduceAdd, Int.reduceSub, Int.reduceMul, Int.reduceNeg, fU]; subst hK))
          refine ⟨(i + 1, M, O), ?hI6, ?hM6, Fgt.head (Nat.le_refl _) [true, true, false, false, false, false, true, true, false, false, false, false, false, false, false, false, false, false, false, false, false, false, false, false, false, false, false, true, true, true] ?hT6 ?hH6⟩
          case hT6 => first | (simp (disch := omega) only [hds, liveT, cleanAV, cleanCell, clean1, cleanBlk, reduceIte, Int.reduceSub, Int.reduceAdd, Int.reduceNeg]; done) | rfl
          case hH6 => first | (simp (disch := omega) only [hds, liveT, cleanAV, cleanCell, clean1, cleanBlk, reduceIte, Int.reduceSub, Int.reduceAdd, Int.reduceNeg]; done) | rfl
          · dsimp only; exact ⟨hlt, hms.symm, hos.symm⟩
          · dsimp only; omega
    · have hin := in_C s k (by omega) (by omega)
      have hcs := cntN_succ s k
      cases hbt : bitN s k with
      | true =>
        rw [hbt] at hin
        rw [hbt, if_pos rfl] at hcs
        generalize cntN k s = c at *
        repeat (first | (with_reducible first | refine Way.imp ?_ | refine blk_o rfl ?_) | ((with_reducible refine WayR.imp (fun K hK => ?_)); simp (disch := first | omega | (simp only [dls]; omega)) only [std, reduceIte, reduceCtorEq, Int.reduceToNat, Nat.reduceAdd, Nat.reduceSub, Nat.reduceMul, Int.reduceAdd, Int.reduceSub, Int.reduceMul, Int.reduceNeg, fU]; subst hK) | refine zcA (hin) rfl rfl rfl ?_)
        refine ⟨(k + 1), ?hI7, ?hM7, Fgt.head (Nat.le_refl _) (true :: true :: false :: false :: false :: false :: true :: true :: false :: true :: true :: false :: false :: false :: false :: false :: false :: false :: false :: false :: false :: false :: false :: false :: false :: false :: false :: true :: true :: true :: false :: false :: false :: false :: true :: true :: []) ?hT7 ?hH7⟩
        case hT7 => first | (simp (disch := omega) only [hds, liveT, cleanAV, cleanCell, clean1, cleanBlk, reduceIte, Int.reduceSub, Int.reduceAdd, Int.reduceNeg, hcs]; done) | rfl
        case hH7 => first | (simp (disch := omega) only [hds, liveT, cleanAV, cleanCell, clean1, cleanBlk, reduceIte, Int.reduceSub, Int.reduceAdd, Int.reduceNeg, hcs]; done) | rfl
        · show k + 1 ≤ _; omega
        · show (osl l).length - (k + 1) < (osl l).length - k; omega
      | false =>
        rw [hbt] at hin
        rw [hbt, if_neg (by simp)] at hcs
        generalize cntN k s = c at *
        repeat (first | (with_reducible first | refine Way.imp ?_ | refine blk_o rfl ?_) | ((with_reducible refine WayR.imp (fun K hK => ?_)); simp (disch := first | omega | (simp only [dls]; omega)) only [std, reduceIte, reduceCtorEq, Int.reduceToNat, Nat.reduceAdd, Nat.reduceSub, Nat.reduceMul, Int.reduceAdd, Int.reduceSub, Int.reduceMul, Int.reduceNeg, fU]; subst hK) | refine zcA (hin) rfl rfl rfl ?_)
        refine ⟨(k + 1), ?hI8, ?hM8, Fgt.head (Nat.le_refl _) (true :: true :: false :: false :: false :: false :: true :: true :: false :: true :: true :: false :: false :: false :: false :: false :: false :: false :: false :: false :: false :: false :: false :: false :: false :: false :: false :: true :: true :: true :: false :: false :: false :: false :: true :: true :: []) ?hT8 ?hH8⟩
        case hT8 => first | (simp (disch := omega) only [hds, liveT, cleanAV, cleanCell, clean1, cleanBlk, reduceIte, Int.reduceSub, Int.reduceAdd, Int.reduceNeg, hcs]; done) | rfl
        case hH8 => first | (simp (disch := omega) only [hds, liveT, cleanAV, cleanCell, clean1, cleanBlk, reduceIte, Int.reduceSub, Int.reduceAdd, Int.reduceNeg, hcs]; done) | rfl
        · show k + 1 ≤ _; omega
        · show (osl l).length - (k + 1) < (osl l).length - k; omega

end Go.Proofs.YtdhkdnmefeeclaaDoor
