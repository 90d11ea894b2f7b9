/- The law PairsEnd. -/
import Derived.Test.YtdhkdnmefeeclaaDoorBP
import Derived.Test.YtdhkdnmefeeclaaDoorZD
set_option linter.unusedSimpArgs false
set_option linter.unusedVariables false
set_option linter.unnecessarySimpa false
set_option linter.unusedSimpArgs false
set_option linter.unusedVariables false
set_option maxRecDepth 100000
set_option maxHeartbeats 4000000
namespace Go.Proofs.YtdhkdnmefeeclaaDoor
open Go Go.Am Go.Proofs Go.RowKit Go.Off

theorem togTo_sum (l : PL) (a b : Nat) : ∀ n, togTo l a b n = togS n (sAt l) (vAt l) a b
  | 0 => rfl
  | n + 1 => by
    show (if hasB l a b n then togTo l a b n + vAt l n else togTo l a b n) = togS n (sAt l) (vAt l) a b + (if bitN (sAt l n) a && bitN (sAt l n) b then vAt l n else 0)
    rw [togTo_sum l a b n]
    unfold hasB
    split
    · rfl
    · exact (Rat.add_zero _).symm
structure CovOk (l : PL) (n : Int) : Prop where
  n0 : 0 ≤ n
  n12 : n ≤ 12
  nn : ∀ i, i < (osl l).length → 0 ≤ vAt l i
  st : ∀ i, i < (osl l).length → 1 ≤ sAt l i ∧ sAt l i < 4096
  df : ∀ i j, i < (osl l).length → j < (osl l).length → i ≠ j → sAt l i ≠ sAt l j
  cv : ∀ k, k < 12 → togS (osl l).length (sAt l) (vAt l) k k = if k < n.toNat then 1 else 0
theorem right_ok {l : PL} {N L : Nat} (hd : DomP l N L) (h : rightP l = true) : (∀ i, i < (osl l).length → 0 ≤ vAt l i) ∧ (∀ i, i < (osl l).length → 1 ≤ sAt l i ∧ sAt l i < 4096) ∧ (∀ i j, i < (osl l).length → j < (osl l).length → i ≠ j → sAt l i ≠ sAt l j) := by
  rw [rightP_eq] at h
  simp only [Bool.and_eq_true] at h
  have hk : ∀ i, i < (osl l).length → (1 ≤ setF l i ∧ setF l i < 4096 ∧ ¬ sgF l i < 0) ∧ (setsTo (setF l) i).contains (setF l i) = false := fun i hi => by
    have := allK_at h.1 hi
    unfold okS at this
    simp only [Bool.and_eq_true, decide_eq_true_eq, Bool.not_eq_true', decide_eq_false_iff_not] at this
    exact this
  refine ⟨fun i hi => Rat.not_lt.1 (fun e => (hk i hi).1.2.2 ((sgF_low l i).2 e)), fun i hi => ?_, ?_⟩
  · have := (hk i hi).1
    rw [setF_eq hd hi] at this
    omega
  · have one : ∀ i j, i < (osl l).length → j < i → sAt l j ≠ sAt l i := fun i j hi hj e => by
      have := (hk i hi).2
      rw [(setsTo_mem (setF l) (setF l i) i).2 ⟨j, hj, by rw [setF_eq hd (by omega), setF_eq hd hi, e]⟩] at this
      cases this
    intro i j hi hj hij
    rcases Nat.lt_or_ge i j with h | h
    · exact one j i hj h
    · exact fun e => one i j hi (by omega) e.symm
theorem cov_ok {l : PL} {N L : Nat} {n : Int} (hd : DomP l N L) (h : coversP l n = true) : CovOk l n := by
  unfold coversP at h
  simp only [Bool.and_eq_true, decide_eq_true_eq] at h
  obtain ⟨h1, h2, h3, h4⟩ := h
  obtain ⟨a, b, c⟩ := right_ok hd h1
  refine ⟨h2, h3, a, b, c, fun k hk => ?_⟩
  have := of_decide_eq_true (allK_at h4 hk)
  rw [togTo_sum] at this
  rw [this]
  by_cases hkn : (k : Int) < n
  · rw [if_pos hkn, if_pos (by omega)]
  · rw [if_neg hkn, if_neg (by omega)]
theorem end_law {l : PL} {n : Int} (h : CovOk l n) : (wholeP l != (splitV l (min n.toNat 12)).2.2) = true := by
  have hn0 := h.n0
  have hn12 := h.n12
  rw [show min n.toNat 12 = n.toNat by omega]
  have hsp : ∀ a b, splB l a b = true ↔ (0 < togS (osl l).length (sAt l) (vAt l) a b ∧ togS (osl l).length (sAt l) (vAt l) a b < 1) := fun a b => by
    unfold splB
    rw [togTo_sum]
    simp only [Bool.and_eq_true, decide_eq_true_eq]
  cases hw : wholeP l with
  | true =>
    have hall : ∀ i, i < (osl l).length → vAt l i = 0 ∨ vAt l i = 1 := fun i hi => by
      have := allK_at hw hi
      unfold unitP at this
      simpa using this
    have hno : anyI (rowHas l n.toNat) n.toNat = false := anyI_of (fun a ha => anyI_of (fun b hb => by
      unfold rowP
      cases hs : splB l a b with
      | false => rw [Bool.and_false]
      | true => exact absurd ((hsp a b).1 hs) (whole_no hall a b)))
    rw [splitV_none hno]
    rfl
  | false =>
    have hex : ∃ i, i < (osl l).length ∧ ¬ (vAt l i = 0 ∨ vAt l i = 1) := by
      refine Classical.byContradiction (fun hc => ?_)
      have : wholeP l = true := by
        unfold wholeP allK
        rw [List.all_eq_true]
        intro i hi
        have hi2 := List.mem_range.1 hi
        have hor : vAt l i = 0 ∨ vAt l i = 1 := Classical.byContradiction (fun hne => hc ⟨i, hi2, hne⟩)
        unfold unitP
        simpa using hor
      rw [this] at hw
      cases hw
    obtain ⟨i, hi, hne⟩ := hex
    obtain ⟨a, b, hab, hbn, g0, g1⟩ := part_split h.nn h.st h.df h.cv hi (fun e => hne (.inl e)) (fun e => hne (.inr e))
    have hr : rowP l a b = true := by unfold rowP; rw [(hsp a b).2 ⟨g0, g1⟩, decide_eq_true hab]; rfl
    unfold splitV
    have hra : rowHas l n.toNat a = true := anyI_true hbn hr
    rw [anyI_true (show a < n.toNat by omega) hra, if_pos rfl]
    rfl

abbrev c5 : CC := (.seq (.reg [⟨(some 4), none, (.mv (.const (.bool false)))⟩]) (.seq (.seq (.reg [⟨(some 8), none, (.mv (.tmp 0))⟩, ⟨(some 9), none, (.callf (.func 14) [(.tmp 8)])⟩, ⟨(some 10), none, (.un .not (.tmp 9))⟩, ⟨(some 11), none, (.mv (.tmp 10))⟩, ⟨(some 12), (some (11, false)), (.mv (.tmp 0))⟩, ⟨(some 13), (some (11, false)), (.callf (.func 17) [(.tmp 12)])⟩, ⟨(some 14), (some (11, false)), (.mv (.tmp 1))⟩, ⟨(some 15), (some (11, false)), (.callf (.func 22) [(.tmp 13), (.tmp 14)])⟩, ⟨(some 16), (some (11, false)), (.un .not (.tmp 15))⟩, ⟨(some 17), none, (.pick (.tmp 11) (.const (.bool true)) (.tmp 16))⟩]) (.cond (.tmp 17) (.seq (.reg [⟨(some 18), none, (.callf (.func 15) [])⟩, ⟨(some 4), none, (.mv (.tmp 18))⟩]) .ret) .skip)) (.seq (.reg [⟨(some 20), none, (.mv (.tmp 0))⟩, ⟨(some 21), none, (.mv (.tmp 1))⟩, ⟨(some 22), none, (.callf (.func 16) [(.tmp 20), (.tmp 21)])⟩, ⟨(some 19), none, (.mv (.tmp 22))⟩, ⟨(some 23), none, (.ext (.tmp 19) 0)⟩, ⟨(some 24), none, (.ext (.tmp 19) 1)⟩, ⟨(some 25), none, (.ext (.tmp 19) 2)⟩, ⟨(some 5), none, (.mv (.tmp 23))⟩, ⟨(some 6), none, (.mv (.tmp 24))⟩, ⟨(some 7), none, (.mv (.tmp 25))⟩]) (.seq (.reg [⟨(some 26), none, (.mv (.tmp 0))⟩, ⟨(some 27), none, (.callf (.func 21) [(.tmp 26)])⟩, ⟨(some 28), none, (.mv (.tmp 7))⟩, ⟨(some 29), none, (.beq true (.tmp 27) (.tmp 28))⟩, ⟨(some 30), none, (.mv (.tmp 29))⟩, ⟨(some 31), (some (30, true)), (.callf (.func 15) [])⟩, ⟨(some 32), none, (.pick (.tmp 30) (.tmp 31) (.const (.bool false)))⟩, ⟨(some 4), none, (.mv (.tmp 32))⟩]) .ret))))
theorem cc5 : ccode Tryd.prog [] (Tryd.f5.body.getD .skip) = some c5 := by kernel_rfl
theorem body5 : Tryd.f5.body = some (Tryd.f5.body.getD .skip) := rfl

theorem pairsEnd_C (l : PL) (n : Int) (hn : -9223372036854775808 ≤ n ∧ n ≤ 9223372036854775807) (h64 : ∀ p ∈ osl l, p.set ≤ 9223372036854775807) : PureC Tryd.prog 5 [aPl l, aI n] (.ret (aB true)) := by
  have haw := awake19_C
  have hfw := few19_C l
  cases c2 : fewPt l with
  | false =>
    rw [c2] at hfw
    refine pureC_of (rs := [(RV.tmp 4)]) Tryd.func5 (fun a w => Tryd.call5 a w) body5 cc5 (by kernel_rfl) ?_
    rw [Tryd.ntmps5]
    simp only [frs, Nat.reduceAdd, Nat.reduceSub]
    repeat (first | (with_reducible first | refine Way.imp ?_ | refine blk_o rfl ?_) | ((with_reducible refine WayR.imp (fun K hK => ?_)); simp (disch := first | omega | (simp only [dls]; omega)) only [std, reduceIte, reduceCtorEq, Int.reduceToNat, Nat.reduceAdd, Nat.reduceSub, Nat.reduceMul, Int.reduceAdd, Int.reduceSub, Int.reduceMul, Int.reduceNeg, fU]; subst hK) | refine zcA (hfw) rfl rfl rfl ?_ | refine zcA (haw) rfl rfl rfl ?_)
    exact ⟨_, rfl, rfl⟩
  | true =>
  rw [c2] at hfw
  have hd := fewPt_dom c2 h64
  have hof := of19_C l 12 3 hd (by decide) (by decide) (by decide)
  have hcv := rcovers_C l _ n 12 3 (isPd_of l) hd (by decide) (by decide) (by decide)
  generalize rowO (ofP l (osl l).length) = x at *
  cases c3 : coversP l n with
  | false =>
    rw [c3] at hcv
    refine pureC_of (rs := [(RV.tmp 4)]) Tryd.func5 (fun a w => Tryd.call5 a w) body5 cc5 (by kernel_rfl) ?_
    rw [Tryd.ntmps5]
    simp only [frs, Nat.reduceAdd, Nat.reduceSub]
    repeat (first | (with_reducible first | refine Way.imp ?_ | refine blk_o rfl ?_) | ((with_reducible refine WayR.imp (fun K hK => ?_)); simp (disch := first | omega | (simp only [dls]; omega)) only [std, reduceIte, reduceCtorEq, Int.reduceToNat, Nat.reduceAdd, Nat.reduceSub, Nat.reduceMul, Int.reduceAdd, Int.reduceSub, Int.reduceMul, Int.reduceNeg, fU]; subst hK) | refine zcA (hfw) rfl rfl rfl ?_ | (apply call_any_g (hof) rfl; (case hg => simp (disch := first | omega | (simp only [dls]; omega)) only [std, reduceIte, reduceCtorEq, Int.reduceToNat, Nat.reduceAdd, Nat.reduceSub, Nat.reduceMul, Int.reduceAdd, Int.reduceSub, Int.reduceMul, Int.reduceNeg, fU]); (case hcl => (simp only [evs, St.ev, constAV, evl]; (repeat (first | exact closeAVs_nil | (apply closeAVs_cons; (first | (refine close_own3 rfl (by decide)) | (refine close_ownO rfl (by decide) ?_; assumption) | rfl)))); done)); (case hu => rfl)) | (apply call_any_g (hcv) rfl; (case hg => simp (disch := first | omega | (simp only [dls]; omega)) only [std, reduceIte, reduceCtorEq, Int.reduceToNat, Nat.reduceAdd, Nat.reduceSub, Nat.reduceMul, Int.reduceAdd, Int.reduceSub, Int.reduceMul, Int.reduceNeg, fU]); (case hcl => (simp only [evs, St.ev, constAV, evl]; (repeat (first | exact closeAVs_nil | (apply closeAVs_cons; (first | (refine close_own3 rfl (by decide)) | (refine close_ownO rfl (by decide) ?_; assumption) | rfl)))); done)); (case hu => rfl)) | refine zcA (haw) rfl rfl rfl ?_)
    exact ⟨_, rfl, rfl⟩
  | true =>
  rw [c3] at hcv
  have hlaw := end_law (cov_ok hd c3)
  have hs := psplit_C l n hn 12 3 hd (by decide) (by decide) (by decide)
  have hw := pwhole_C l 12 3 hd (by decide) (by decide) (by decide)
  generalize splitV l (min n.toNat 12) = V at *
  obtain ⟨va, vb, vc⟩ := V
  dsimp only at hs hlaw
  generalize wholeP l = u at *
  cases u <;> cases vc <;> first | (exfalso; exact absurd hlaw (by decide)) | skip
  · refine pureC_of (rs := [(RV.tmp 4)]) Tryd.func5 (fun a w => Tryd.call5 a w) body5 cc5 (by kernel_rfl) ?_
    rw [Tryd.ntmps5]
    simp only [frs, Nat.reduceAdd, Nat.reduceSub]
    repeat (first | (with_reducible first | refine Way.imp ?_ | refine blk_o rfl ?_) | ((with_reducible refine WayR.imp (fun K hK => ?_)); simp (disch := first | omega | (simp only [dls]; omega)) only [std, reduceIte, reduceCtorEq, Int.reduceToNat, Nat.reduceAdd, Nat.reduceSub, Nat.reduceMul, Int.reduceAdd, Int.reduceSub, Int.reduceMul, Int.reduceNeg, fU]; subst hK) | refine zcA (hfw) rfl rfl rfl ?_ | (apply call_any_g (hof) rfl; (case hg => simp (disch := first | omega | (simp only [dls]; omega)) only [std, reduceIte, reduceCtorEq, Int.reduceToNat, Nat.reduceAdd, Nat.reduceSub, Nat.reduceMul, Int.reduceAdd, Int.reduceSub, Int.reduceMul, Int.reduceNeg, fU]); (case hcl => (simp only [evs, St.ev, constAV, evl]; (repeat (first | exact closeAVs_nil | (apply closeAVs_cons; (first | (refine close_own3 rfl (by decide)) | (refine close_ownO rfl (by decide) ?_; assumption) | rfl)))); done)); (case hu => rfl)) | (apply call_any_g (hcv) rfl; (case hg => simp (disch := first | omega | (simp only [dls]; omega)) only [std, reduceIte, reduceCtorEq, Int.reduceToNat, Nat.reduceAdd, Nat.reduceSub, Nat.reduceMul, Int.reduceAdd, Int.reduceSub, Int.reduceMul, Int.reduceNeg, fU]); (case hcl => (simp only [evs, St.ev, constAV, evl]; (repeat (first | exact closeAVs_nil | (apply closeAVs_cons; (first | (refine close_own3 rfl (by decide)) | (refine close_ownO rfl (by decide) ?_; assumption) | rfl)))); done)); (case hu => rfl)) | refine zcA (haw) rfl rfl rfl ?_ | refine zcA (hs) rfl rfl rfl ?_ | refine zcA (hw) rfl rfl rfl ?_ | (apply call_any_g (haw) rfl; (case hg => simp (disch := first | omega | (simp only [dls]; omega)) only [std, reduceIte, reduceCtorEq, Int.reduceToNat, Nat.reduceAdd, Nat.reduceSub, Nat.reduceMul, Int.reduceAdd, Int.reduceSub, Int.reduceMul, Int.reduceNeg, fU]); (case hcl => (simp only [evs, St.ev, constAV, evl]; (repeat (first | exact closeAVs_nil | (apply closeAVs_cons; (first | (refine close_own3 rfl (by decide)) | (refine close_ownO rfl (by decide) ?_; assumption) | rfl)))); done)); (case hu => rfl)))
    exact ⟨_, rfl, rfl⟩
  · refine pureC_of (rs := [(RV.tmp 4)]) Tryd.func5 (fun a w => Tryd.call5 a w) body5 cc5 (by kernel_rfl) ?_
    rw [Tryd.ntmps5]
    simp only [frs, Nat.reduceAdd, Nat.reduceSub]
    repeat (first | (with_reducible first | refine Way.imp ?_ | refine blk_o rfl ?_) | ((with_reducible refine WayR.imp (fun K hK => ?_)); simp (disch := first | omega | (simp only [dls]; omega)) only [std, reduceIte, reduceCtorEq, Int.reduceToNat, Nat.reduceAdd, Nat.reduceSub, Nat.reduceMul, Int.reduceAdd, Int.reduceSub, Int.reduceMul, Int.reduceNeg, fU]; subst hK) | refine zcA (hfw) rfl rfl rfl ?_ | (apply call_any_g (hof) rfl; (case hg => simp (disch := first | omega | (simp only [dls]; omega)) only [std, reduceIte, reduceCtorEq, Int.reduceToNat, Nat.reduceAdd, Nat.reduceSub, Nat.reduceMul, Int.reduceAdd, Int.reduceSub, Int.reduceMul, Int.reduceNeg, fU]); (case hcl => (simp only [evs, St.ev, constAV, evl]; (repeat (first | exact closeAVs_nil | (apply closeAVs_cons; (first | (refine close_own3 rfl (by decide)) | (refine close_ownO rfl (by decide) ?_; assumption) | rfl)))); done)); (case hu => rfl)) | (apply call_any_g (hcv) rfl; (case hg => simp (disch := first | omega | (simp only [dls]; omega)) only [std, reduceIte, reduceCtorEq, Int.reduceToNat, Nat.reduceAdd, Nat.reduceSub, Nat.reduceMul, Int.reduceAdd, Int.reduceSub, Int.reduceMul, Int.reduceNeg, fU]); (case hcl => (simp only [evs, St.ev, constAV, evl]; (repeat (first | exact closeAVs_nil | (apply closeAVs_cons; (first | (refine close_own3 rfl (by decide)) | (refine close_ownO rfl (by decide) ?_; assumption) | rfl)))); done)); (case hu => rfl)) | refine zcA (haw) rfl rfl rfl ?_ | refine zcA (hs) rfl rfl rfl ?_ | refine zcA (hw) rfl rfl rfl ?_ | (apply call_any_g (haw) rfl; (case hg => simp (disch := first | omega | (simp only [dls]; omega)) only [std, reduceIte, reduceCtorEq, Int.reduceToNat, Nat.reduceAdd, Nat.reduceSub, Nat.reduceMul, Int.reduceAdd, Int.reduceSub, Int.reduceMul, Int.reduceNeg, fU]); (case hcl => (simp only [evs, St.ev, constAV, evl]; (repeat (first | exact closeAVs_nil | (apply closeAVs_cons; (first | (refine close_own3 rfl (by decide)) | (refine close_ownO rfl (by decide) ?_; assumption) | rfl)))); done)); (case hu => rfl)))
    exact ⟨_, rfl, rfl⟩

end Go.Proofs.YtdhkdnmefeeclaaDoor
