/- What the laws of layer 16 go through: plain facts; offcutlaw16: awake. -/
import Derived.Test.YtdhkdnmefeeclaaBK
import Derived.Test.YtdhkdnmefeeclaaJC
set_option linter.unusedSimpArgs false
set_option linter.unusedVariables false
set_option linter.unnecessarySimpa false
set_option linter.unusedSimpArgs false
set_option linter.unusedVariables false
set_option maxRecDepth 100000
set_option maxHeartbeats 4000000
namespace Go.Proofs.Ytdhkdnmefeeclaa
open Go Go.Am Go.Proofs Go.RowKit Go.Off

theorem sgW_pos (ws : VV) (k : Nat) : (0 < sgW ws k) ↔ 0 < qAt ws k := by
  have h : 0 < (rAt ws k).val ↔ 0 < (rAt ws k).top := by
    have h1 := mkRat_lt (n := 0) (m := (rAt ws k).top) (d := 1) (e := (rAt ws k).bot) (by decide) (rAt ws k).bot_ne
    show (0 : Rat) < mkRat _ _ ↔ _
    rw [← Rat.zero_mkRat 1, h1]
    simp
  unfold qAt
  rw [h]
  unfold sgW sgn
  split <;> (try split) <;> omega
theorem pcS_eq (s : ST) (ws : VV) : pcS s ws = pieceL (fun k => (itAt s k).need.toNat) (fun k => decide (0 < qAt ws k)) (osl s.items).length := by
  have key : ∀ k, pcTo (fun i => (itAt s i).need) (sgW ws) k = pieceL (fun k => (itAt s k).need.toNat) (fun k => decide (0 < qAt ws k)) k := by
    intro k
    induction k with
    | zero => rfl
    | succ k ih =>
      show pcTo _ _ k ++ _ = pieceL _ _ k ++ _
      rw [ih]
      dsimp only
      by_cases h : 0 < qAt ws k
      · rw [if_pos ((sgW_pos ws k).2 h), if_pos (decide_eq_true h)]
      · rw [if_neg (fun h2 => h ((sgW_pos ws k).1 h2)), if_neg (by rw [decide_eq_true_eq]; exact h)]
  exact key _
def kvS (s : ST) (ws : VV) : Rat := kv (osl s.items).length (fun k => (itAt s k).width) (fun k => (itAt s k).need) (qAt ws) s.roll.toNat
theorem bestV_kv (s : ST) (ws : VV) : bestV s ws = kvS s ws := by
  unfold bestV bF kvS kv
  rw [pcS_eq]
  rfl
/-- What fits is not worth more. -/
theorem fits_le {s : ST} {ws : VV} {t : Option (List Int)} (hl : (osl ws).length = (osl s.items).length) (h : fitsT s t = true) : worthQ ws t ≤ kvS s ws := by
  unfold fitsT okW at h
  simp only [Bool.and_eq_true, decide_eq_true_eq] at h
  obtain ⟨⟨hr, hlt, hall⟩, hw⟩ := h
  have rt := rtS_of hr
  have hk : ∀ k, k < (osl s.items).length → 0 ≤ tkAt t k ∧ tkAt t k ≤ (itAt s k).need := fun k hk => by
    have := allK_at hall hk
    unfold okT at this
    simpa using this
  have hs : ∀ k, k ≤ (osl s.items).length → ((sumN k (fun k => (tkAt t k).toNat * (itAt s k).width.toNat) : Nat) : Int) = wideTo s t k := by
    intro k
    induction k with
    | zero => intro _; rfl
    | succ k ih =>
      intro h1
      show ((sumN k _ + (tkAt t k).toNat * (itAt s k).width.toNat : Nat) : Int) = wideTo s t k + tkAt t k * (itAt s k).width
      rw [Int.natCast_add, ih (by omega), Int.natCast_mul, Int.toNat_of_nonneg (hk k h1).1, Int.toNat_of_nonneg (by have := (rt.item k h1).1; omega)]
  have h1 := kv_ge (N := (osl s.items).length) (W := fun k => (itAt s k).width) (need := fun k => (itAt s k).need) (q := qAt ws) (R := s.roll.toNat) (n := fun k => (tkAt t k).toNat) (fun k h2 => by have := hk k h2; omega)
    (by have := hs _ (Nat.le_refl _); have := rt.roll; omega)
  have e : worthQ ws t = sumR (osl s.items).length (fun k => qAt ws k * (((tkAt t k).toNat : Nat) : Rat)) := by
    unfold worthQ worthTo
    rw [hl, hlt, Nat.min_self]
    refine sumR_congr (fun k h2 => ?_)
    have : tkAt t k = (((tkAt t k).toNat : Nat) : Int) := (Int.toNat_of_nonneg (hk k h2).1).symm
    rw [(congrArg (fun z : Int => (z : Rat)) this).trans (Rat.intCast_natCast _)]
  rw [e]
  exact h1
theorem few_total {s : ST} (hr : rightS s = true) (hf : fewS s = true) : totalS s ≤ 64 ∧ (osl s.items).length ≤ 4 ∧ ∀ k, k < (osl s.items).length → (itAt s k).need ≤ 7 := by
  unfold fewS at hf
  simp only [Bool.and_eq_true, decide_eq_true_eq] at hf
  obtain ⟨h1, h2⟩ := hf
  have h7 : ∀ k, k < (osl s.items).length → (itAt s k).need ≤ 7 := fun k hk => by
    have := allK_at h1 (k := k) (by omega)
    unfold need7 at this
    simpa using this
  refine ⟨?_, h2, h7⟩
  unfold totalS eachS
  rw [if_pos hr]
  have rt := rtS_of hr
  have key : ∀ k, k ≤ (osl s.items).length → (eachTo (needG s) k).length ≤ k * 7 := by
    intro k
    induction k with
    | zero => intro _; exact Nat.le_refl _
    | succ k ih =>
      intro hk
      rw [eachTo_succ_len]
      have := ih (by omega)
      have h3 : needG s k = (itAt s k).need := by unfold needG; rw [if_pos (rt.item k hk).2]
      have := h7 k hk
      have := (rt.item k hk).2
      omega
  have := key _ (Nat.le_refl _)
  omega
theorem takesV_len (s : ST) (ws : VV) : (takesV s ws).length = (osl s.items).length := cntL_len _ _
theorem takesV_at (s : ST) (ws : VV) {k : Nat} (h : k < (takesV s ws).length) : ∃ n : Nat, (takesV s ws)[k] = (n : Int) ∧ n ≤ (pcS s ws).length := by
  refine ⟨_, ?_, backF_cnt (wN s) (qAt ws) (pcS s ws) s.roll.toNat (pcS s ws).length k⟩
  unfold takesV
  exact cntL_at h
theorem fits_kv {s : ST} {ws : VV} {n L : Nat} (hw : FitsV ws n L) (hL : 1 ≤ L) {T : Nat} (hT : totalS s = T) (hr : rightS s = true) : FitsQ (kvS s ws) (T * (L + 1) + 1) := by
  rw [← bestV_kv]
  have h1 := fits_best (s := s) hw hL (pcS s ws) s.roll.toNat
  have h2 := pc_le hT ws hr
  exact h1.mono (by have := Nat.mul_le_mul_right (L + 1) h2; omega)

/-! ### awake -/

theorem text6 : textQ 6 = [54] := by
  have h1 : dec 6 = [54] := by
    have h := dec_tv (s := [54]) (by simp) (by simp [isDig]) (by simp)
    rwa [show tv [54] = 6 from by decide] at h
  have h : decZ (6 : Rat).num = dec 6 := rfl
  have h2 : (6 : Rat).den = 1 := rfl
  unfold textQ
  rw [if_pos h2, h, h1]
def awS : ST := ⟨10, some [⟨6, 2⟩, ⟨5, 2⟩]⟩
abbrev awW : VV := some [rawQ 5, rawQ 3]
theorem awS_right : rightS awS = true := by decide
theorem awW_q : qAt awW = fun k => if k = 0 then 5 else if k = 1 then 3 else 0 := by
  funext k
  match k with
  | 0 => exact rawQ_val 5
  | 1 => exact rawQ_val 3
  | k + 2 => rw [if_neg (by omega), if_neg (by omega)]; show (([] : List RR).getD k zR).val = 0; simp [zR_val]
theorem awS_best : bestR awS awW = aCh (rawQ 6) (some [0, 2]) 0 := by
  have h1 : bestV awS awW = 6 := by
    rw [bestV_kv]; unfold kvS; rw [awW_q]; decide +kernel
  have h2 : takesV awS awW = [0, 2] := by
    unfold takesV; rw [pcS_eq, awW_q]; decide +kernel
  unfold bestR
  rw [if_neg (by rw [awS_right]; simp), if_neg (by simp [awS, osl]), if_neg (by decide), h1, h2]
theorem awS_fits : fitsT awS (some [0, 2]) = true := by decide
theorem awS_use : useT awS (some [0, 2]) = 10 := by decide
theorem litIt2 (a b c d : Int) : [[Cell.c (.val (.int .i64 a)), Cell.c (.val (.int .i64 b))], [Cell.c (.val (.int .i64 c)), Cell.c (.val (.int .i64 d))]] = encB fItm [⟨a, b⟩, ⟨c, d⟩] := rfl
theorem litI2 (x y : Int) : [[Cell.c (.val (.int .i64 x))], [Cell.c (.val (.int .i64 y))]] = encB fI [x, y] := rfl

theorem flat_Ch (v : RR) (t : List Int) (e : Int) : flatAV (aCh v (some t) e) = false := by simp [flatAV, flat1, fCh, fR, flatCell, encSl, flatCV]
abbrev c84 : CC := (.seq (.reg [⟨(some 0), none, (.mv (.const (.bool false)))⟩]) (.seq (.reg [⟨(some 4), none, (.build [(.int .i64 (0)), (.int .i64 (0))] [(0, (1, (.const (.int .i64 (6))))), (1, (1, (.const (.int .i64 (2)))))])⟩, ⟨(some 5), none, (.build [(.int .i64 (0)), (.int .i64 (0))] [(0, (1, (.const (.int .i64 (5))))), (1, (1, (.const (.int .i64 (2)))))])⟩, ⟨(some 6), none, (.mkrow 121 2 [(.tmp 4), (.tmp 5)])⟩, ⟨(some 7), none, (.build [(.int .i64 (0)), (.slice none 0 0)] [(0, (1, (.const (.int .i64 (10))))), (1, (1, (.tmp 6)))])⟩, ⟨(some 1), none, (.new 110 [(.int .i64 (0)), (.slice none 0 0)])⟩, ⟨none, none, (.store 2 (.tmp 1) (.tmp 7))⟩]) (.seq (.regn true [⟨(some 9), none, (.load 2 true (.tmp 1))⟩, ⟨(some 10), none, (.mkrowc 1 [(.const (.int .i64 (5))), (.const (.int .i64 (3)))])⟩, ⟨(some 11), none, (.callf (.func 57) [(.tmp 10)])⟩, ⟨(some 12), none, (.callf (.func 85) [(.tmp 9), (.tmp 11)])⟩, ⟨(some 8), none, (.mv (.tmp 12))⟩, ⟨(some 13), none, (.ext (.tmp 8) 0)⟩, ⟨(some 14), none, (.ext (.tmp 8) 1)⟩, ⟨(some 2), none, (.fill 117 [(.bool false), (.slice none 0 0), (.slice none 0 0), (.slice none 0 0)])⟩, ⟨none, none, (.store 4 (.tmp 2) (.tmp 13))⟩, ⟨(some 3), none, (.mv (.tmp 14))⟩]) (.seq (.reg [⟨(some 15), none, (.mv (.tmp 3))⟩, ⟨(some 16), none, (.bin .eql (.tmp 15) (.const (.int .i64 (0))))⟩, ⟨(some 17), none, (.mv (.tmp 16))⟩, ⟨(some 18), (some (17, true)), (.faddr 0 (.tmp 2))⟩, ⟨(some 19), (some (17, true)), (.load 3 true (.tmp 18))⟩, ⟨(some 20), (some (17, true)), (.callf (.func 90) [(.tmp 19)])⟩, ⟨(some 21), (some (17, true)), (.bin .eql (.tmp 20) (.const (.string ⟨#[54]⟩)))⟩, ⟨(some 22), none, (.pick (.tmp 17) (.tmp 21) (.const (.bool false)))⟩, ⟨(some 23), none, (.mv (.tmp 22))⟩, ⟨(some 24), (some (23, true)), (.faddr 3 (.tmp 2))⟩, ⟨(some 25), (some (23, true)), (.load 1 false (.tmp 24))⟩, ⟨(some 26), (some (23, true)), (.len false (.tmp 25))⟩, ⟨(some 27), (some (23, true)), (.bin .eql (.tmp 26) (.const (.int .i64 (2))))⟩, ⟨(some 28), none, (.pick (.tmp 23) (.tmp 27) (.const (.bool false)))⟩, ⟨(some 29), none, (.mv (.tmp 28))⟩, ⟨(some 30), (some (29, true)), (.faddr 3 (.tmp 2))⟩, ⟨(some 31), (some (29, true)), (.load 1 false (.tmp 30))⟩, ⟨(some 32), (some (29, true)), (.iaddr 1 none (.tmp 31) (.const (.int .i64 (1))))⟩, ⟨(some 33), (some (29, true)), (.load 1 false (.tmp 32))⟩, ⟨(some 34), (some (29, true)), (.bin .eql (.tmp 33) (.const (.int .i64 (2))))⟩, ⟨(some 35), none, (.pick (.tmp 29) (.tmp 34) (.const (.bool false)))⟩, ⟨(some 36), none, (.mv (.tmp 35))⟩, ⟨(some 37), (some (36, true)), (.load 2 true (.tmp 1))⟩, ⟨(some 38), (some (36, true)), (.faddr 3 (.tmp 2))⟩, ⟨(some 39), (some (36, true)), (.load 1 false (.tmp 38))⟩, ⟨(some 40), (some (36, true)), (.callf (.func 86) [(.tmp 37), (.tmp 39)])⟩, ⟨(some 41), none, (.pick (.tmp 36) (.tmp 40) (.const (.bool false)))⟩, ⟨(some 42), none, (.mv (.tmp 41))⟩, ⟨(some 43), (some (42, true)), (.load 2 true (.tmp 1))⟩, ⟨(some 44), (some (42, true)), (.faddr 3 (.tmp 2))⟩, ⟨(some 45), (some (42, true)), (.load 1 false (.tmp 44))⟩, ⟨(some 46), (some (42, true)), (.callf (.func 89) [(.tmp 43), (.tmp 45)])⟩, ⟨(some 47), (some (42, true)), (.bin .eql (.tmp 46) (.const (.int .i64 (10))))⟩, ⟨(some 48), none, (.pick (.tmp 42) (.tmp 47) (.const (.bool false)))⟩, ⟨(some 0), none, (.mv (.tmp 48))⟩]) .ret))))
theorem cc84 : ccode Try.prog [] (Try.f84.body.getD .skip) = some c84 := by kernel_rfl
theorem body84 : Try.f84.body = some (Try.f84.body.getD .skip) := rfl

theorem awake16_C : PureC Try.prog 84 [] (.ret (aB true)) := by
  have i1 := ints_R [5, 3] (by decide) (by decide)
  change PureC _ _ _ (.ret (aV (some [rawQ 5, rawQ 3]))) at i1
  have f1 : FitsV awW 2 2 := ⟨Nat.le_refl _, fun r hr => by
    rw [osl_some] at hr
    rcases List.mem_cons.1 hr with rfl | hr
    · exact fits_rawQ (fits_int 5 (by decide) (by decide))
    · rw [List.mem_singleton.1 hr]; exact fits_rawQ (fits_int 3 (by decide) (by decide))⟩
  have hb := kbest_C awS awW 2 2 f1 (by decide) (by decide) (by decide)
  rw [awS_best] at hb
  change PureC _ _ [aSt awS, aV (some [rawQ 5, rawQ 3])] _ at hb
  have ht := rtext_C (rawQ 6) (fits_rawQ ((fits_int 6 (by decide) (by decide)).mono (by decide)))
  rw [rawQ_val, text6] at ht
  have hf := kfits_C awS (some [0, 2]) (by decide)
  rw [awS_fits] at hf
  have hu := kuse_C awS (some [0, 2]) (by decide)
  rw [awS_use] at hu
  clear f1
  unfold awS at *
  generalize rawQ 5 = q5 at *
  generalize rawQ 3 = q3 at *
  generalize rawQ 6 = q6 at *
  refine pureC_of (rs := [(RV.tmp 0)]) Try.func84 (fun a w => Try.call84 a w) body84 cc84 (by kernel_rfl) ?_
  rw [Try.ntmps84]
  simp only [frs, Nat.reduceAdd, Nat.reduceSub]
  repeat (first | (with_reducible first | refine Way.imp ?_ | refine blk_o rfl ?_) | ((with_reducible refine WayR.imp (fun K hK => ?_)); simp (disch := first | omega | (simp only [dls]; omega)) only [std, reduceIte, reduceCtorEq, Int.reduceToNat, Nat.reduceAdd, Nat.reduceSub, Nat.reduceMul, Int.reduceAdd, Int.reduceSub, Int.reduceMul, Int.reduceNeg, fU, litIt2, litI2, fCh, fR, fI, List.getElem_cons_succ, List.getElem_cons_zero, List.cons_append, List.nil_append, List.map_cons, List.map_nil]; subst hK) | (apply call_ret (i1) rfl; (case hcl => (simp only [evs, St.ev, constAV, evl]; (repeat (first | exact closeAVs_nil | (apply closeAVs_cons; (first | (refine close_own3 rfl (by decide)) | (refine close_ownO rfl (by decide) ?_; assumption) | rfl)))); done)); (case hf => rfl); (case hu => (simp only [evs, St.ev, constAV, evl]; (repeat (first | exact used_nil | (apply used_cons; (first | (apply used_own3; rfl) | rfl)))); done)); (case hh => ((simp only [fzl, Nat.reduceBEq, Nat.reduceAdd, Bool.false_eq_true, if_true, if_false, reduceIte]) <;> rfl))) | (apply call_ret (ids := [0]) (hb) rfl; (case hcl => (simp only [evs, St.ev, constAV, evl]; (repeat (first | exact closeAVs_nil | (apply closeAVs_cons; (first | (refine close_own3 rfl (by decide)) | (refine close_ownO rfl (by decide) ?_; assumption) | rfl)))); done)); (case hf => exact flat_Ch ..); (case hu => rfl); (case hh => ((simp only [fzl, Nat.reduceBEq, Nat.reduceAdd, Bool.false_eq_true, if_true, if_false, reduceIte]) <;> rfl))) | (apply call_any_g (ht) rfl; (case hg => simp (disch := first | omega | (simp only [dls]; omega)) only [std, reduceIte, reduceCtorEq, Int.reduceToNat, Nat.reduceAdd, Nat.reduceSub, Nat.reduceMul, Int.reduceAdd, Int.reduceSub, Int.reduceMul, Int.reduceNeg, fU, litIt2, litI2, fCh, fR, fI, List.getElem_cons_succ, List.getElem_cons_zero, List.cons_append, List.nil_append, List.map_cons, List.map_nil]); (case hcl => (simp only [evs, St.ev, constAV, evl]; (repeat (first | exact closeAVs_nil | (apply closeAVs_cons; (first | (refine close_own3 rfl (by decide)) | (refine close_ownO rfl (by decide) ?_; assumption) | rfl)))); done)); (case hu => rfl)) | (apply call_flat_g (by simp (disch := first | omega | (simp only [dls]; omega)) only [std, reduceIte, reduceCtorEq, Int.reduceToNat, Nat.reduceAdd, Nat.reduceSub, Nat.reduceMul, Int.reduceAdd, Int.reduceSub, Int.reduceMul, Int.reduceNeg, fU, litIt2, litI2, fCh, fR, fI, List.getElem_cons_succ, List.getElem_cons_zero, List.cons_append, List.nil_append, List.map_cons, List.map_nil]) (hf) rfl; (case hcl => (simp only [evs, St.ev, constAV, evl]; (repeat (first | exact closeAVs_nil | (apply closeAVs_cons; (first | (refine close_own3 rfl (by decide)) | (refine close_ownO rfl (by decide) ?_; assumption) | rfl)))); done)); (case hf => rfl)) | (apply call_flat_g (by simp (disch := first | omega | (simp only [dls]; omega)) only [std, reduceIte, reduceCtorEq, Int.reduceToNat, Nat.reduceAdd, Nat.reduceSub, Nat.reduceMul, Int.reduceAdd, Int.reduceSub, Int.reduceMul, Int.reduceNeg, fU, litIt2, litI2, fCh, fR, fI, List.getElem_cons_succ, List.getElem_cons_zero, List.cons_append, List.nil_append, List.map_cons, List.map_nil]) (hu) rfl; (case hcl => (simp only [evs, St.ev, constAV, evl]; (repeat (first | exact closeAVs_nil | (apply closeAVs_cons; (first | (refine close_own3 rfl (by decide)) | (refine close_ownO rfl (by decide) ?_; assumption) | rfl)))); done)); (case hf => rfl)))
  exact ⟨_, rfl, rfl⟩

end Go.Proofs.Ytdhkdnmefeeclaa
