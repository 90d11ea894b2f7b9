/- The law KnapBest: the walk. -/
import Derived.Test.YtdhkdnmefeeclaaJD
import Derived.Test.YtdhkdnmefeeclaaJF
set_option linter.unusedSimpArgs false
set_option linter.unusedVariables false
set_option linter.unnecessarySimpa false
set_option linter.unusedSimpArgs false
set_option linter.unusedVariables false
set_option maxRecDepth 100000
set_option maxHeartbeats 4000000
namespace Go.Proofs.Ytdhkdnmefeeclaa
open Go Go.Am Go.Proofs Go.RowKit Go.Off

structure TkOk (s : ST) (ws : VV) (T : List Int) : Prop where
  len : T.length = (osl s.items).length
  fits : fitsT s (some T) = true
  worth : worthQ ws (some T) = kvS s ws
  bnd : ∀ z ∈ T, -9223372036854775808 ≤ z ∧ z ≤ 9223372036854775807
  pos : ∀ k (h : k < T.length), 0 < T[k] → 0 < sgn (rAt ws k).top
theorem takes_ok {s : ST} {ws : VV} (hr : rightS s = true) (hl : (osl ws).length = (osl s.items).length) (hT : totalS s ≤ 64) : TkOk s ws (takesV s ws) := by
  have rt := rtS_of hr
  have hlt : ∀ k ∈ pcS s ws, k < (osl s.items).length := pcTo_lt _ _ _
  obtain ⟨b1, b2, b3⟩ := back_done (wN s) (qAt ws) (pcS s ws) s.roll.toNat (osl s.items).length hlt
  have hb := bestV_kv s ws
  unfold bestV bF at hb
  rw [hb] at b1
  have hpl := Nat.le_trans (pc_le rfl ws hr) hT
  have hcnt := backF_cnt (wN s) (qAt ws) (pcS s ws) s.roll.toNat (pcS s ws).length
  have e : takesV s ws = cntL (osl s.items).length (backF (wN s) (qAt ws) (pcS s ws) s.roll.toNat (pcS s ws).length).2 := rfl
  rw [e]
  generalize (backF (wN s) (qAt ws) (pcS s ws) s.roll.toNat (pcS s ws).length).2 = f at *
  have hn : ∀ k, k < (osl s.items).length → (f k : Int) ≤ (itAt s k).need ∧ (0 < f k → 0 < qAt ws k) := fun k hk => by
    have h3 := b3 k
    rw [pcS_eq, pieceL_count] at h3
    by_cases hh : k < (osl s.items).length ∧ decide (0 < qAt ws k) = true
    · rw [if_pos hh] at h3
      have := (rt.item k hk).2
      exact ⟨by omega, fun _ => of_decide_eq_true hh.2⟩
    · rw [if_neg hh] at h3
      have := (rt.item k hk).2
      exact ⟨by omega, fun h => by omega⟩
  have htk : ∀ k, k < (osl s.items).length → tkAt (some (cntL (osl s.items).length f)) k = ((f k : Nat) : Int) := fun k hk => by
    rw [tkAt_in (by rw [osl_some, cntL_len]; exact hk)]
    exact cntL_at _
  have hw : ∀ k, k ≤ (osl s.items).length → wideTo s (some (cntL (osl s.items).length f)) k = ((sumN k (fun k => f k * wN s k) : Nat) : Int) := by
    intro k
    induction k with
    | zero => intro _; rfl
    | succ k ih =>
      intro h1
      show wideTo s _ k + tkAt _ k * (itAt s k).width = ((sumN k _ + f k * wN s k : Nat) : Int)
      rw [ih (by omega), htk k h1, Int.natCast_add, Int.natCast_mul]
      congr 2
      unfold wN
      rw [Int.toNat_of_nonneg (by have := (rt.item k h1).1; omega)]
  refine ⟨cntL_len _ _, ?_, ?_, ?_, ?_⟩
  · unfold fitsT okW
    rw [hr, decide_eq_true (show (osl (some (cntL (osl s.items).length f))).length = _ from cntL_len _ _), hw _ (Nat.le_refl _), decide_eq_true (by have := rt.roll; omega)]
    have : allK (okT s (some (cntL (osl s.items).length f))) (osl s.items).length = true := by
      unfold allK
      rw [List.all_eq_true]
      intro k hk
      have hk := List.mem_range.1 hk
      unfold okT
      rw [htk k hk, decide_eq_true (by omega), decide_eq_true (hn k hk).1]
      rfl
    rw [this]; rfl
  · rw [← b1]
    unfold worthQ worthTo
    rw [hl, show (osl (some (cntL (osl s.items).length f))).length = _ from cntL_len _ _, Nat.min_self]
    refine sumR_congr (fun k hk => ?_)
    rw [htk k hk, Rat.intCast_natCast]
  · intro z hz
    obtain ⟨k, hk, rfl⟩ := List.mem_iff_getElem.1 hz
    rw [cntL_at hk]
    have := hcnt k
    omega
  · intro k hk h
    rw [cntL_at hk] at h
    exact (sgW_pos ws k).2 ((hn k (by rw [cntL_len] at hk; exact hk)).2 (by omega))

theorem isD_row (ws : VV) : IsD (rowO (rowD ws)) (osl ws).length (qAt ws) := by
  refine ⟨by rw [osl_rowO]; unfold rowD; rw [List.length_map], fun i h => ?_⟩
  have hi : i < (osl ws).length := by rw [osl_rowO] at h; unfold rowD at h; rwa [List.length_map] at h
  unfold qAt
  rw [rAt_in hi]
  simp [rowD, osl_rowO]

abbrev c24_k1 : CC := (.seq (.reg [⟨(some 123), none, (.faddr 0 (.tmp 5))⟩, ⟨(some 124), none, (.load 3 true (.tmp 123))⟩, ⟨(some 125), none, (.callf (.func 35) [(.tmp 124)])⟩, ⟨(some 126), none, (.faddr 1 (.tmp 7))⟩, ⟨(some 127), none, (.load 1 false (.tmp 126))⟩, ⟨(some 128), none, (.faddr 2 (.tmp 7))⟩, ⟨(some 129), none, (.load 1 false (.tmp 128))⟩, ⟨(some 130), none, (.mv (.tmp 1))⟩, ⟨(some 131), none, (.callf (.func 31) [(.tmp 130)])⟩, ⟨(some 132), none, (.faddr 0 (.tmp 2))⟩, ⟨(some 133), none, (.load 1 false (.tmp 132))⟩, ⟨(some 134), none, (.callf (.func 88) [(.tmp 127), (.tmp 129), (.tmp 131), (.const (.int .i64 (0))), (.tmp 133)])⟩, ⟨(some 135), none, (.aggeq false 2 (.tmp 125) (.tmp 134))⟩, ⟨(some 136), none, (.mv (.tmp 135))⟩, ⟨(some 137), (some (136, true)), (.callf (.func 84) [])⟩, ⟨(some 138), none, (.pick (.tmp 136) (.tmp 137) (.const (.bool false)))⟩, ⟨(some 4), none, (.mv (.tmp 138))⟩]) .ret)
abbrev c24_b1 : CC := (.seq (.reg [⟨(some 108), none, (.bin .lss (.tmp 107) (.tmp 106))⟩]) (.seq (.cond (.tmp 108) .skip (.exit 1)) (.seq (.block 2 (.seq (.reg [⟨(some 109), none, (.mv (.tmp 107))⟩, ⟨(some 110), none, (.iaddr 1 none (.tmp 105) (.tmp 107))⟩, ⟨(some 111), none, (.load 1 false (.tmp 110))⟩, ⟨(some 8), none, (.mv (.tmp 109))⟩, ⟨(some 9), none, (.mv (.tmp 111))⟩]) (.seq (.reg [⟨(some 112), none, (.mv (.tmp 9))⟩, ⟨(some 113), none, (.bin .gtr (.tmp 112) (.const (.int .i64 (0))))⟩, ⟨(some 114), none, (.mv (.tmp 113))⟩, ⟨(some 115), (some (114, true)), (.mv (.tmp 1))⟩, ⟨(some 116), (some (114, true)), (.mv (.tmp 8))⟩, ⟨(some 117), (some (114, true)), (.iaddr 3 none (.tmp 115) (.tmp 116))⟩, ⟨(some 118), (some (114, true)), (.load 3 true (.tmp 117))⟩, ⟨(some 119), (some (114, true)), (.callf (.func 33) [(.tmp 118)])⟩, ⟨(some 120), (some (114, true)), (.bin .leq (.tmp 119) (.const (.int .i64 (0))))⟩, ⟨(some 121), none, (.pick (.tmp 114) (.tmp 120) (.const (.bool false)))⟩]) (.cond (.tmp 121) (.seq (.reg [⟨(some 4), none, (.mv (.const (.bool false)))⟩]) .ret) .skip)))) (.reg [⟨(some 122), none, (.bin .add (.tmp 107) (.const (.int .i64 (1))))⟩, ⟨(some 107), none, (.mv (.tmp 122))⟩]))))
abbrev c24 : CC := (.seq (.reg [⟨(some 2), none, (.box 110 (.tmp 0))⟩, ⟨(some 4), none, (.mv (.const (.bool false)))⟩]) (.seq (.seq (.reg [⟨(some 10), none, (.load 2 true (.tmp 2))⟩, ⟨(some 11), none, (.callf (.func 81) [(.tmp 10)])⟩, ⟨(some 12), none, (.un .not (.tmp 11))⟩, ⟨(some 13), none, (.mv (.tmp 12))⟩, ⟨(some 14), (some (13, false)), (.mv (.tmp 1))⟩, ⟨(some 15), (some (13, false)), (.callf (.func 26) [(.tmp 14)])⟩, ⟨(some 16), (some (13, false)), (.un .not (.tmp 15))⟩, ⟨(some 17), none, (.pick (.tmp 13) (.const (.bool true)) (.tmp 16))⟩]) (.cond (.tmp 17) (.seq (.reg [⟨(some 18), none, (.callf (.func 84) [])⟩, ⟨(some 4), none, (.mv (.tmp 18))⟩]) .ret) .skip)) (.seq (.reg [⟨(some 20), none, (.load 2 true (.tmp 2))⟩, ⟨(some 21), none, (.mv (.tmp 1))⟩, ⟨(some 22), none, (.callf (.func 85) [(.tmp 20), (.tmp 21)])⟩, ⟨(some 19), none, (.mv (.tmp 22))⟩, ⟨(some 23), none, (.ext (.tmp 19) 0)⟩, ⟨(some 24), none, (.ext (.tmp 19) 1)⟩, ⟨(some 5), none, (.new 117 [(.bool false), (.slice none 0 0), (.slice none 0 0), (.slice none 0 0)])⟩, ⟨none, none, (.store 4 (.tmp 5) (.tmp 23))⟩, ⟨(some 6), none, (.mv (.tmp 24))⟩]) (.seq (.block 0 (.seq (.reg [⟨(some 26), none, (.load 2 true (.tmp 2))⟩, ⟨(some 27), none, (.callf (.func 83) [(.tmp 26)])⟩, ⟨(some 28), none, (.callf (.func 82) [(.tmp 27)])⟩, ⟨(some 29), none, (.un .not (.tmp 28))⟩, ⟨(some 25), none, (.mv (.tmp 29))⟩]) (.cond (.tmp 25) (.seq (.reg [⟨(some 30), none, (.faddr 3 (.tmp 5))⟩, ⟨(some 31), none, (.load 1 false (.tmp 30))⟩, ⟨(some 32), none, (.len false (.tmp 31))⟩, ⟨(some 33), none, (.bin .eql (.tmp 32) (.const (.int .i64 (0))))⟩, ⟨(some 34), none, (.mv (.tmp 33))⟩, ⟨(some 35), (some (34, true)), (.mv (.tmp 6))⟩, ⟨(some 36), (some (34, true)), (.bin .eql (.tmp 35) (.const (.int .i64 (1))))⟩, ⟨(some 37), none, (.pick (.tmp 34) (.tmp 36) (.const (.bool false)))⟩, ⟨(some 38), none, (.mv (.tmp 37))⟩, ⟨(some 39), (some (38, true)), (.callf (.func 84) [])⟩, ⟨(some 40), none, (.pick (.tmp 38) (.tmp 39) (.const (.bool false)))⟩, ⟨(some 4), none, (.mv (.tmp 40))⟩]) .ret) (.seq (.reg [⟨(some 42), none, (.mv (.tmp 1))⟩, ⟨(some 43), none, (.len false (.tmp 42))⟩, ⟨(some 44), none, (.faddr 1 (.tmp 2))⟩, ⟨(some 45), none, (.load 1 false (.tmp 44))⟩, ⟨(some 46), none, (.len false (.tmp 45))⟩, ⟨(some 47), none, (.bin .neq (.tmp 43) (.tmp 46))⟩, ⟨(some 41), none, (.mv (.tmp 47))⟩]) (.cond (.tmp 41) (.seq (.reg [⟨(some 48), none, (.faddr 3 (.tmp 5))⟩, ⟨(some 49), none, (.load 1 false (.tmp 48))⟩, ⟨(some 50), none, (.len false (.tmp 49))⟩, ⟨(some 51), none, (.bin .eql (.tmp 50) (.const (.int .i64 (0))))⟩, ⟨(some 52), none, (.mv (.tmp 51))⟩, ⟨(some 53), (some (52, true)), (.mv (.tmp 6))⟩, ⟨(some 54), (some (52, true)), (.bin .eql (.tmp 53) (.const (.int .i64 (7))))⟩, ⟨(some 55), none, (.pick (.tmp 52) (.tmp 54) (.const (.bool false)))⟩, ⟨(some 56), none, (.mv (.tmp 55))⟩, ⟨(some 57), (some (56, true)), (.callf (.func 84) [])⟩, ⟨(some 58), none, (.pick (.tmp 56) (.tmp 57) (.const (.bool false)))⟩, ⟨(some 4), none, (.mv (.tmp 58))⟩]) .ret) (.seq (.reg [⟨(some 60), none, (.faddr 0 (.tmp 2))⟩, ⟨(some 61), none, (.load 1 false (.tmp 60))⟩, ⟨(some 62), none, (.bin .gtr (.tmp 61) (.const (.int .i64 (512))))⟩, ⟨(some 59), none, (.mv (.tmp 62))⟩]) (.cond (.tmp 59) (.seq (.reg [⟨(some 63), none, (.faddr 3 (.tmp 5))⟩, ⟨(some 64), none, (.load 1 false (.tmp 63))⟩, ⟨(some 65), none, (.len false (.tmp 64))⟩, ⟨(some 66), none, (.bin .eql (.tmp 65) (.const (.int .i64 (0))))⟩, ⟨(some 67), none, (.mv (.tmp 66))⟩, ⟨(some 68), (some (67, true)), (.mv (.tmp 6))⟩, ⟨(some 69), (some (67, true)), (.bin .eql (.tmp 68) (.const (.int .i64 (4))))⟩, ⟨(some 70), none, (.pick (.tmp 67) (.tmp 69) (.const (.bool false)))⟩, ⟨(some 71), none, (.mv (.tmp 70))⟩, ⟨(some 72), (some (71, true)), (.callf (.func 84) [])⟩, ⟨(some 73), none, (.pick (.tmp 71) (.tmp 72) (.const (.bool false)))⟩, ⟨(some 4), none, (.mv (.tmp 73))⟩]) .ret) .skip))))))) (.seq (.reg [⟨(some 74), none, (.load 2 true (.tmp 2))⟩, ⟨(some 75), none, (.callf (.func 83) [(.tmp 74)])⟩, ⟨(some 7), none, (.new 114 [(.int .i64 (0)), (.slice none 0 0), (.slice none 0 0)])⟩, ⟨none, none, (.store 3 (.tmp 7) (.tmp 75))⟩]) (.seq (.seq (.reg [⟨(some 76), none, (.mv (.tmp 6))⟩, ⟨(some 77), none, (.bin .neq (.tmp 76) (.const (.int .i64 (0))))⟩, ⟨(some 78), none, (.mv (.tmp 77))⟩, ⟨(some 79), (some (78, false)), (.load 2 true (.tmp 2))⟩, ⟨(some 80), (some (78, false)), (.faddr 3 (.tmp 5))⟩, ⟨(some 81), (some (78, false)), (.load 1 false (.tmp 80))⟩, ⟨(some 82), (some (78, false)), (.callf (.func 86) [(.tmp 79), (.tmp 81)])⟩, ⟨(some 83), (some (78, false)), (.un .not (.tmp 82))⟩, ⟨(some 84), none, (.pick (.tmp 78) (.const (.bool true)) (.tmp 83))⟩, ⟨(some 85), none, (.mv (.tmp 84))⟩, ⟨(some 86), (some (85, false)), (.faddr 0 (.tmp 5))⟩, ⟨(some 87), (some (85, false)), (.load 3 true (.tmp 86))⟩, ⟨(some 88), (some (85, false)), (.mv (.tmp 1))⟩, ⟨(some 89), (some (85, false)), (.faddr 3 (.tmp 5))⟩, ⟨(some 90), (some (85, false)), (.load 1 false (.tmp 89))⟩, ⟨(some 91), (some (85, false)), (.callf (.func 87) [(.tmp 88), (.tmp 90)])⟩, ⟨(some 92), (some (85, false)), (.callf (.func 35) [(.tmp 91)])⟩, ⟨(some 93), (some (85, false)), (.callf (.func 32) [(.tmp 87), (.tmp 92)])⟩, ⟨(some 94), (some (85, false)), (.un .not (.tmp 93))⟩, ⟨(some 95), none, (.pick (.tmp 85) (.const (.bool true)) (.tmp 94))⟩, ⟨(some 96), none, (.mv (.tmp 95))⟩, ⟨(some 97), (some (96, false)), (.faddr 3 (.tmp 5))⟩, ⟨(some 98), (some (96, false)), (.load 1 false (.tmp 97))⟩, ⟨(some 99), (some (96, false)), (.len false (.tmp 98))⟩, ⟨(some 100), (some (96, false)), (.mv (.tmp 1))⟩, ⟨(some 101), (some (96, false)), (.len false (.tmp 100))⟩, ⟨(some 102), (some (96, false)), (.bin .neq (.tmp 99) (.tmp 101))⟩, ⟨(some 103), none, (.pick (.tmp 96) (.const (.bool true)) (.tmp 102))⟩]) (.cond (.tmp 103) (.seq (.reg [⟨(some 4), none, (.mv (.const (.bool false)))⟩]) .ret) .skip)) (.seq (.seq (.reg [⟨(some 104), none, (.faddr 3 (.tmp 5))⟩, ⟨(some 105), none, (.load 1 false (.tmp 104))⟩, ⟨(some 106), none, (.len false (.tmp 105))⟩, ⟨(some 107), none, (.mv (.const (.int .i64 (0))))⟩]) (.block 1 (.loop c24_b1))) c24_k1)))))))
theorem cc24 : ccode Try.prog [] (Try.f24.body.getD .skip) = some c24 := by kernel_rfl
theorem body24 : Try.f24.body = some (Try.f24.body.getD .skip) := rfl

theorem knapBest_C (s : ST) (ws : VV) : PureC Try.prog 24 [aSt s, aV ws] (.ret (aB true)) := by
  have hfs := fewS_C s
  have hfw := few_C ws
  have haw := awake16_C
  cases c1 : fewS s with
  | false =>
    rw [c1] at hfs
    refine pureC_of (rs := [(RV.tmp 4)]) Try.func24 (fun a w => Try.call24 a w) body24 cc24 (by kernel_rfl) ?_
    rw [Try.ntmps24]
    simp only [frs, Nat.reduceAdd, Nat.reduceSub]
    repeat (first | (with_reducible first | refine Way.imp ?_ | refine blk_o rfl ?_) | ((with_reducible refine WayR.imp (fun K hK => ?_)); simp (disch := first | omega | (simp only [dls]; omega)) only [std, reduceIte, reduceCtorEq, Int.reduceToNat, Nat.reduceAdd, Nat.reduceSub, Nat.reduceMul, Int.reduceAdd, Int.reduceSub, Int.reduceMul, Int.reduceNeg, fU]; subst hK) | refine zcA (hfs) rfl rfl rfl ?_ | refine zcA (haw) rfl rfl rfl ?_)
    exact ⟨_, rfl, rfl⟩
  | true =>
  rw [c1] at hfs
  cases c2 : fewB ws with
  | false =>
    rw [c2] at hfw
    refine pureC_of (rs := [(RV.tmp 4)]) Try.func24 (fun a w => Try.call24 a w) body24 cc24 (by kernel_rfl) ?_
    rw [Try.ntmps24]
    simp only [frs, Nat.reduceAdd, Nat.reduceSub]
    repeat (first | (with_reducible first | refine Way.imp ?_ | refine blk_o rfl ?_) | ((with_reducible refine WayR.imp (fun K hK => ?_)); simp (disch := first | omega | (simp only [dls]; omega)) only [std, reduceIte, reduceCtorEq, Int.reduceToNat, Nat.reduceAdd, Nat.reduceSub, Nat.reduceMul, Int.reduceAdd, Int.reduceSub, Int.reduceMul, Int.reduceNeg, fU]; subst hK) | refine zcA (hfs) rfl rfl rfl ?_ | (apply call_any_g (hfw) rfl; (case hg => simp (disch := first | omega | (simp only [dls]; omega)) only [std, reduceIte, reduceCtorEq, Int.reduceToNat, Nat.reduceAdd, Nat.reduceSub, Nat.reduceMul, Int.reduceAdd, Int.reduceSub, Int.reduceMul, Int.reduceNeg, fU]); (case hcl => (simp only [evs, St.ev, constAV, evl]; (repeat (first | exact closeAVs_nil | (apply closeAVs_cons; (first | (refine close_own3 rfl (by decide)) | (refine close_ownO rfl (by decide) ?_; assumption) | rfl)))); done)); (case hu => rfl)) | refine zcA (haw) rfl rfl rfl ?_)
    exact ⟨_, rfl, rfl⟩
  | true =>
  rw [c2] at hfw
  have fw := fewB_fits c2
  have hw8 := fw.1
  have h4 : (osl s.items).length ≤ 4 := by
    unfold fewS at c1
    simp only [Bool.and_eq_true, decide_eq_true_eq] at c1
    exact c1.2
  have hof := lof10_C s (by omega)
  have hri := right10_C s (by omega)
  have hb := kbest_C s ws 8 3 fw (by decide) (by decide) (by decide)
  cases c3 : rightS s with
  | false =>
    rw [c3] at hri
    have e : bestR s ws = aCh zR none 1 := by unfold bestR; rw [c3, if_pos rfl]
    rw [e] at hb
    generalize dsOf s = D at *
    refine pureC_of (rs := [(RV.tmp 4)]) Try.func24 (fun a w => Try.call24 a w) body24 cc24 (by kernel_rfl) ?_
    rw [Try.ntmps24]
    simp only [frs, Nat.reduceAdd, Nat.reduceSub]
    repeat (first | (with_reducible first | refine Way.imp ?_ | refine blk_o rfl ?_) | ((with_reducible refine WayR.imp (fun K hK => ?_)); simp (disch := first | omega | (simp only [dls]; omega)) only [std, reduceIte, reduceCtorEq, Int.reduceToNat, Nat.reduceAdd, Nat.reduceSub, Nat.reduceMul, Int.reduceAdd, Int.reduceSub, Int.reduceMul, Int.reduceNeg, fU, fCh, fR, List.cons_append, List.nil_append, List.map_cons, List.map_nil]; subst hK) | refine zcA (hfs) rfl rfl rfl ?_ | (apply call_any_g (hfw) rfl; (case hg => simp (disch := first | omega | (simp only [dls]; omega)) only [std, reduceIte, reduceCtorEq, Int.reduceToNat, Nat.reduceAdd, Nat.reduceSub, Nat.reduceMul, Int.reduceAdd, Int.reduceSub, Int.reduceMul, Int.reduceNeg, fU, fCh, fR, List.cons_append, List.nil_append, List.map_cons, List.map_nil]); (case hcl => (simp only [evs, St.ev, constAV, evl]; (repeat (first | exact closeAVs_nil | (apply closeAVs_cons; (first | (refine close_own3 rfl (by decide)) | (refine close_ownO rfl (by decide) ?_; assumption) | rfl)))); done)); (case hu => rfl)) | refine zcA (hb) rfl rfl rfl ?_ | refine zcA (hof) rfl rfl rfl ?_ | refine zcA (hri) rfl rfl rfl ?_ | (apply call_any_g (haw) rfl; (case hg => simp (disch := first | omega | (simp only [dls]; omega)) only [std, reduceIte, reduceCtorEq, Int.reduceToNat, Nat.reduceAdd, Nat.reduceSub, Nat.reduceMul, Int.reduceAdd, Int.reduceSub, Int.reduceMul, Int.reduceNeg, fU, fCh, fR, List.cons_append, List.nil_append, List.map_cons, List.map_nil]); (case hcl => (simp only [evs, St.ev, constAV, evl]; (repeat (first | exact closeAVs_nil | (apply closeAVs_cons; (first | (refine close_own3 rfl (by decide)) | (refine close_ownO rfl (by decide) ?_; assumption) | rfl)))); done)); (case hu => rfl)))
    exact ⟨_, rfl, rfl⟩
  | true =>
  rw [c3] at hri
  obtain ⟨hT, _, h7⟩ := few_total c3 c1
  have rt := rtS_of c3
  by_cases c4 : (osl ws).length = (osl s.items).length
  case neg =>
    have e : bestR s ws = aCh zR none 7 := by unfold bestR; rw [c3, if_neg (by simp), if_pos c4]
    rw [e] at hb
    generalize dsOf s = D at *
    refine pureC_of (rs := [(RV.tmp 4)]) Try.func24 (fun a w => Try.call24 a w) body24 cc24 (by kernel_rfl) ?_
    rw [Try.ntmps24]
    simp only [frs, Nat.reduceAdd, Nat.reduceSub]
    repeat (first | (with_reducible first | refine Way.imp ?_ | refine blk_o rfl ?_) | ((with_reducible refine WayR.imp (fun K hK => ?_)); simp (disch := first | omega | (simp only [dls]; omega)) only [std, reduceIte, reduceCtorEq, Int.reduceToNat, Nat.reduceAdd, Nat.reduceSub, Nat.reduceMul, Int.reduceAdd, Int.reduceSub, Int.reduceMul, Int.reduceNeg, fU, fCh, fR, List.cons_append, List.nil_append, List.map_cons, List.map_nil]; subst hK) | refine zcA (hfs) rfl rfl rfl ?_ | (apply call_any_g (hfw) rfl; (case hg => simp (disch := first | omega | (simp only [dls]; omega)) only [std, reduceIte, reduceCtorEq, Int.reduceToNat, Nat.reduceAdd, Nat.reduceSub, Nat.reduceMul, Int.reduceAdd, Int.reduceSub, Int.reduceMul, Int.reduceNeg, fU, fCh, fR, List.cons_append, List.nil_append, List.map_cons, List.map_nil]); (case hcl => (simp only [evs, St.ev, constAV, evl]; (repeat (first | exact closeAVs_nil | (apply closeAVs_cons; (first | (refine close_own3 rfl (by decide)) | (refine close_ownO rfl (by decide) ?_; assumption) | rfl)))); done)); (case hu => rfl)) | refine zcA (hb) rfl rfl rfl ?_ | refine zcA (hof) rfl rfl rfl ?_ | refine zcA (hri) rfl rfl rfl ?_ | (apply call_any_g (haw) rfl; (case hg => simp (disch := first | omega | (simp only [dls]; omega)) only [std, reduceIte, reduceCtorEq, Int.reduceToNat, Nat.reduceAdd, Nat.reduceSub, Nat.reduceMul, Int.reduceAdd, Int.reduceSub, Int.reduceMul, Int.reduceNeg, fU, fCh, fR, List.cons_append, List.nil_append, List.map_cons, List.map_nil]); (case hcl => (simp only [evs, St.ev, constAV, evl]; (repeat (first | exact closeAVs_nil | (apply closeAVs_cons; (first | (refine close_own3 rfl (by decide)) | (refine close_ownO rfl (by decide) ?_; assumption) | rfl)))); done)); (case hu => rfl)))
    exact ⟨_, rfl, rfl⟩
  by_cases c5 : s.roll ≤ 512
  case neg =>
    have e : bestR s ws = aCh zR none 4 := by unfold bestR; rw [c3, if_neg (by simp), if_neg (fun h => h c4), if_pos (.inl (by omega))]
    rw [e] at hb
    generalize dsOf s = D at *
    refine pureC_of (rs := [(RV.tmp 4)]) Try.func24 (fun a w => Try.call24 a w) body24 cc24 (by kernel_rfl) ?_
    rw [Try.ntmps24]
    simp only [frs, Nat.reduceAdd, Nat.reduceSub]
    repeat (first | (with_reducible first | refine Way.imp ?_ | refine blk_o rfl ?_) | ((with_reducible refine WayR.imp (fun K hK => ?_)); simp (disch := first | omega | (simp only [dls]; omega)) only [std, reduceIte, reduceCtorEq, Int.reduceToNat, Nat.reduceAdd, Nat.reduceSub, Nat.reduceMul, Int.reduceAdd, Int.reduceSub, Int.reduceMul, Int.reduceNeg, fU, c4, fCh, fR, List.cons_append, List.nil_append, List.map_cons, List.map_nil]; subst hK) | refine zcA (hfs) rfl rfl rfl ?_ | (apply call_any_g (hfw) rfl; (case hg => simp (disch := first | omega | (simp only [dls]; omega)) only [std, reduceIte, reduceCtorEq, Int.reduceToNat, Nat.reduceAdd, Nat.reduceSub, Nat.reduceMul, Int.reduceAdd, Int.reduceSub, Int.reduceMul, Int.reduceNeg, fU, c4, fCh, fR, List.cons_append, List.nil_append, List.map_cons, List.map_nil]); (case hcl => (simp only [evs, St.ev, constAV, evl]; (repeat (first | exact closeAVs_nil | (apply closeAVs_cons; (first | (refine close_own3 rfl (by decide)) | (refine close_ownO rfl (by decide) ?_; assumption) | rfl)))); done)); (case hu => rfl)) | refine zcA (hb) rfl rfl rfl ?_ | refine zcA (hof) rfl rfl rfl ?_ | refine zcA (hri) rfl rfl rfl ?_ | (apply call_any_g (haw) rfl; (case hg => simp (disch := first | omega | (simp only [dls]; omega)) only [std, reduceIte, reduceCtorEq, Int.reduceToNat, Nat.reduceAdd, Nat.reduceSub, Nat.reduceMul, Int.reduceAdd, Int.reduceSub, Int.reduceMul, Int.reduceNeg, fU, c4, fCh, fR, List.cons_append, List.nil_append, List.map_cons, List.map_nil]); (case hcl => (simp only [evs, St.ev, constAV, evl]; (repeat (first | exact closeAVs_nil | (apply closeAVs_cons; (first | (refine close_own3 rfl (by decide)) | (refine close_ownO rfl (by decide) ?_; assumption) | rfl)))); done)); (case hu => rfl)))
    exact ⟨_, rfl, rfl⟩
  have e : bestR s ws = aCh (rawQ (kvS s ws)) (some (takesV s ws)) 0 := by
    unfold bestR
    rw [c3, if_neg (by simp), if_neg (fun h => h c4), if_neg (by omega), bestV_kv]
  rw [e] at hb
  have tk := takes_ok c3 c4 hT
  have f1 := fits_kv fw (by decide) rfl c3
  have hro := row_C ws 8 3 fw (by decide) (by decide)
  have hq : ∀ k, FitsQ (qAt ws k) 3 := fun k => (fw.at k).val (by decide)
  have hrb := refBest_of (osl s.items).length (fun k => (itAt s k).width) (fun k => (itAt s k).need) (qAt ws) _ _ _ 3 (isI_wid s) (isI_need s) (c4 ▸ isD_row ws) h4 (fun k hk => (rt.item k hk).1) (fun k hk => ⟨(rt.item k hk).2.1, h7 k hk⟩)
    hq (by decide) (by decide) _ (Nat.le_refl _) s.roll (by have := rt.roll; omega) rt.roll.2
  rw [Nat.sub_self] at hrb
  have hkr : refD (osl s.items).length (fun k => (itAt s k).width) (fun k => (itAt s k).need) (qAt ws) (osl s.items).length s.roll = kvS s ws := by
    have := kv_ref (osl s.items).length (fun k => (itAt s k).width) (fun k => (itAt s k).need) (qAt ws) (fun k hk => (rt.item k hk).1.1) s.roll.toNat
    rw [Int.toNat_of_nonneg (by have := rt.roll; omega)] at this
    exact this.symm
  rw [hkr] at hrb
  have f1' := f1.mono (show totalS s * (3 + 1) + 1 ≤ 9000000 by omega)
  have hlo := lof_C (rawQ (kvS s ws)) (fits_rawQ f1')
  rw [rawQ_val] at hlo
  have his := is_C (kvS s ws) (kvS s ws) f1'
  rw [decide_eq_true rfl] at his
  have hTl := tk.len
  have hkf := kfits_C s (some (takesV s ws)) (by rw [osl_some, hTl]; omega)
  rw [tk.fits] at hkf
  have hwo := worth_C ws (some (takesV s ws)) 8 3 fw (by decide) (by decide) (by decide) tk.bnd
  rw [tk.worth] at hwo
  have hps := tk.pos
  have hsg : ∀ k (h : k < (osl ws).length), PureC Try.prog 33 [aR (osl ws)[k]] (.ret (aI (sgn (rAt ws k).top))) := fun k h => by
    have := rsign_C (rAt ws k) ((fw.at k).mono (by decide))
    rw [rAt_in h] at this ⊢
    exact this
  have hos : (osl (some (takesV s ws))).length = (osl s.items).length := hTl
  clear f1 f1' tk hkr
  unfold dsOf at *
  generalize rawQ (kvS s ws) = q1 at *
  generalize kvS s ws = q0 at *
  generalize takesV s ws = tv at *
  generalize rowO (widL s) = wl at *
  generalize rowO (needL s) = nl at *
  generalize rowO (rowD ws) = dl at *
  refine pureC_of (rs := [(RV.tmp 4)]) Try.func24 (fun a w => Try.call24 a w) body24 cc24 (by kernel_rfl) ?_
  rw [Try.ntmps24]
  simp only [frs, Nat.reduceAdd, Nat.reduceSub]
  repeat (first | (with_reducible first | refine Way.imp ?_ | refine blk_o rfl ?_) | ((with_reducible refine WayR.imp (fun K hK => ?_)); simp (disch := first | omega | (simp only [dls]; omega)) only [std, reduceIte, reduceCtorEq, Int.reduceToNat, Nat.reduceAdd, Nat.reduceSub, Nat.reduceMul, Int.reduceAdd, Int.reduceSub, Int.reduceMul, Int.reduceNeg, fU, c4, hTl, hos, fCh, fR, List.cons_append, List.nil_append, List.map_cons, List.map_nil]; subst hK) | refine zcA (hfs) rfl rfl rfl ?_ | (apply call_any_g (hfw) rfl; (case hg => simp (disch := first | omega | (simp only [dls]; omega)) only [std, reduceIte, reduceCtorEq, Int.reduceToNat, Nat.reduceAdd, Nat.reduceSub, Nat.reduceMul, Int.reduceAdd, Int.reduceSub, Int.reduceMul, Int.reduceNeg, fU, c4, hTl, hos, fCh, fR, List.cons_append, List.nil_append, List.map_cons, List.map_nil]); (case hcl => (simp only [evs, St.ev, constAV, evl]; (repeat (first | exact closeAVs_nil | (apply closeAVs_cons; (first | (refine close_own3 rfl (by decide)) | (refine close_ownO rfl (by decide) ?_; assumption) | rfl)))); done)); (case hu => rfl)) | refine zcA (hb) rfl rfl rfl ?_ | refine zcA (hof) rfl rfl rfl ?_ | refine zcA (hri) rfl rfl rfl ?_ | (apply call_any_g (hkf) rfl; (case hg => simp (disch := first | omega | (simp only [dls]; omega)) only [std, reduceIte, reduceCtorEq, Int.reduceToNat, Nat.reduceAdd, Nat.reduceSub, Nat.reduceMul, Int.reduceAdd, Int.reduceSub, Int.reduceMul, Int.reduceNeg, fU, c4, hTl, hos, fCh, fR, List.cons_append, List.nil_append, List.map_cons, List.map_nil]); (case hcl => (simp only [evs, St.ev, constAV, evl]; (repeat (first | exact closeAVs_nil | (apply closeAVs_cons; (first | (refine close_own3 rfl (by decide)) | (refine close_ownO rfl (by decide) ?_; assumption) | rfl)))); done)); (case hu => rfl)) | (apply call_any_g (hwo) rfl; (case hg => simp (disch := first | omega | (simp only [dls]; omega)) only [std, reduceIte, reduceCtorEq, Int.reduceToNat, Nat.reduceAdd, Nat.reduceSub, Nat.reduceMul, Int.reduceAdd, Int.reduceSub, Int.reduceMul, Int.reduceNeg, fU, c4, hTl, hos, fCh, fR, List.cons_append, List.nil_append, List.map_cons, List.map_nil]); (case hcl => (simp only [evs, St.ev, constAV, evl]; (repeat (first | exact closeAVs_nil | (apply closeAVs_cons; (first | (refine close_own3 rfl (by decide)) | (refine close_ownO rfl (by decide) ?_; assumption) | rfl)))); done)); (case hu => rfl)) | (apply call_any_g (hlo) rfl; (case hg => simp (disch := first | omega | (simp only [dls]; omega)) only [std, reduceIte, reduceCtorEq, Int.reduceToNat, Nat.reduceAdd, Nat.reduceSub, Nat.reduceMul, Int.reduceAdd, Int.reduceSub, Int.reduceMul, Int.reduceNeg, fU, c4, hTl, hos, fCh, fR, List.cons_append, List.nil_append, List.map_cons, List.map_nil]); (case hcl => (simp only [evs, St.ev, constAV, evl]; (repeat (first | exact closeAVs_nil | (apply closeAVs_cons; (first | (refine close_own3 rfl (by decide)) | (refine close_ownO rfl (by decide) ?_; assumption) | rfl)))); done)); (case hu => rfl)) | (apply call_any_g (his) rfl; (case hg => simp (disch := first | omega | (simp only [dls]; omega)) only [std, reduceIte, reduceCtorEq, Int.reduceToNat, Nat.reduceAdd, Nat.reduceSub, Nat.reduceMul, Int.reduceAdd, Int.reduceSub, Int.reduceMul, Int.reduceNeg, fU, c4, hTl, hos, fCh, fR, List.cons_append, List.nil_append, List.map_cons, List.map_nil]); (case hcl => (simp only [evs, St.ev, constAV, evl]; (repeat (first | exact closeAVs_nil | (apply closeAVs_cons; (first | (refine close_own3 rfl (by decide)) | (refine close_ownO rfl (by decide) ?_; assumption) | rfl)))); done)); (case hu => rfl)) | (apply call_any_g (haw) rfl; (case hg => simp (disch := first | omega | (simp only [dls]; omega)) only [std, reduceIte, reduceCtorEq, Int.reduceToNat, Nat.reduceAdd, Nat.reduceSub, Nat.reduceMul, Int.reduceAdd, Int.reduceSub, Int.reduceMul, Int.reduceNeg, fU, c4, hTl, hos, fCh, fR, List.cons_append, List.nil_append, List.map_cons, List.map_nil]); (case hcl => (simp only [evs, St.ev, constAV, evl]; (repeat (first | exact closeAVs_nil | (apply closeAVs_cons; (first | (refine close_own3 rfl (by decide)) | (refine close_ownO rfl (by decide) ?_; assumption) | rfl)))); done)); (case hu => rfl)))
  refine awp_loop (fun (zz : Nat) => ⟨(.junk :: aV ws :: .one (.ptr 0 0 0 0) :: .junk :: .junk :: .one (.ptr 1 0 0 0) :: .junk :: .one (.ptr 2 0 0 0) :: .junk :: .junk :: .junk :: .junk :: .junk :: .junk :: .junk :: .junk :: .junk :: .junk :: .junk :: .junk :: .junk :: .junk :: .junk :: .junk :: .junk :: .junk :: .junk :: .junk :: .junk :: .junk :: .junk :: .junk :: .junk :: .junk :: .junk :: .junk :: .junk :: .junk :: .junk :: .junk :: .junk :: .junk :: .junk :: .junk :: .junk :: .junk :: .junk :: .junk :: .junk :: .junk :: .junk :: .junk :: .junk :: .junk :: .junk :: .junk :: .junk :: .junk :: .junk :: .junk :: .junk :: .junk :: .junk :: .junk :: .junk :: .junk :: .junk :: .junk :: .junk :: .junk :: .junk :: .junk :: .junk :: .junk :: .junk :: .junk :: .junk :: .junk :: .junk :: .junk :: .junk :: .junk :: .junk :: .junk :: .junk :: .junk :: .junk :: .junk :: .junk :: .junk :: .junk :: .junk :: .junk :: .junk :: .junk :: .junk :: .junk :: .junk :: .junk :: .junk :: .junk :: .junk :: .junk :: .junk :: .junk :: aTk (some tv) :: aI (osl s.items).length :: aI zz :: .junk :: .junk :: .junk :: .junk :: .junk :: .junk :: .junk :: .junk :: .junk :: .junk :: .junk :: .junk :: .junk :: .junk :: .junk :: .junk :: .junk :: .junk :: .junk :: .junk :: .junk :: .junk :: .junk :: .junk :: .junk :: .junk :: .junk :: .junk :: .junk :: .junk :: .junk :: []), [⟨0, 110, 2, [[.c (.val (.int .i64 s.roll)), .c (encSl 2 fItm s.items)]], true, true⟩, ⟨0, 117, 4, [[.c (.val (.bool q1.minus)), .c (nr q1.size), .c (nr q1.den), .c (encSl 1 fI (some tv))]], true, true⟩, ⟨0, 114, 3, [[.c (.val (.int .i64 s.roll)), .c (encSl 1 fI wl), .c (encSl 1 fI nl)]], true, true⟩]⟩) (fun (zz : Nat) => zz ≤ (osl s.items).length) (fun (zz : Nat) => (osl s.items).length - zz) (0) ?hI1 (Fgt.head (Nat.zero_le 3) (false :: true :: true :: false :: false :: true :: false :: true :: false :: false :: false :: false :: false :: false :: false :: false :: false :: false :: false :: false :: false :: false :: false :: false :: false :: false :: false :: false :: false :: false :: false :: false :: false :: false :: false :: false :: false :: false :: false :: false :: false :: false :: false :: false :: false :: false :: false :: false :: false :: false :: false :: false :: false :: false :: false :: false :: false :: false :: false :: false :: false :: false :: false :: false :: false :: false :: false :: false :: false :: false :: false :: false :: false :: false :: false :: false :: false :: false :: false :: false :: false :: false :: false :: false :: false :: false :: false :: false :: false :: false :: false :: false :: false :: false :: false :: false :: false :: false :: false :: false :: false :: false :: false :: false :: false :: true :: true :: true :: []) ?hT1 ?hH1) ?hB1
  case hT1 => first | (simp (disch := omega) only [hds, liveT, cleanAV, cleanCell, clean1, cleanBlk, reduceIte, Int.reduceSub, Int.reduceAdd, Int.reduceNeg]; done) | rfl
  case hH1 => first | (simp (disch := omega) only [hds, liveT, cleanAV, cleanCell, clean1, cleanBlk, reduceIte, Int.reduceSub, Int.reduceAdd, Int.reduceNeg]; done) | rfl
  · exact Nat.zero_le _
  rintro i hi
  by_cases him : i = (osl s.items).length
  · have hsc : ∀ a b : List UInt8, strCells [Cell.c (.str a), Cell.c (.str b)] = some [a, b] := fun a b => rfl
    repeat (first | (with_reducible first | refine Way.imp ?_ | refine blk_o rfl ?_) | ((with_reducible refine WayR.imp (fun K hK => ?_)); simp (disch := first | omega | (simp only [dls]; omega)) only [std, reduceIte, reduceCtorEq, Int.reduceToNat, Nat.reduceAdd, Nat.reduceSub, Nat.reduceMul, Int.reduceAdd, Int.reduceSub, Int.reduceMul, Int.reduceNeg, fU, fR, hsc, Option.bind_some, List.length_cons, List.length_nil, beq_self_eq_true]; subst hK) | refine zcA (hlo) rfl rfl rfl ?_ | refine zcA (hro) rfl rfl rfl ?_ | refine zcA (hrb) rfl rfl rfl ?_ | (apply call_any_g (haw) rfl; (case hg => simp (disch := first | omega | (simp only [dls]; omega)) only [std, reduceIte, reduceCtorEq, Int.reduceToNat, Nat.reduceAdd, Nat.reduceSub, Nat.reduceMul, Int.reduceAdd, Int.reduceSub, Int.reduceMul, Int.reduceNeg, fU, fR, hsc, Option.bind_some, List.length_cons, List.length_nil, beq_self_eq_true]); (case hcl => (simp only [evs, St.ev, constAV, evl]; (repeat (first | exact closeAVs_nil | (apply closeAVs_cons; (first | (refine close_own3 rfl (by decide)) | (refine close_ownO rfl (by decide) ?_; assumption) | rfl)))); done)); (case hu => rfl)))
    exact ⟨_, rfl, rfl⟩
  · have hlt : i < (osl s.items).length := by omega
    have hit : i < tv.length := by omega
    have hiw : i < (osl ws).length := by omega
    have hti : ∀ h : i < (osl (some tv)).length, (osl (some tv))[i] = tv[i] := fun h => rfl
    have hp := hps i hit
    have hsi := hsg i hiw
    generalize sgn (rAt ws i).top = z at *
    by_cases h0 : 0 < tv[i]
    · have hz := hp h0
      repeat (first | (with_reducible first | refine Way.imp ?_ | refine blk_o rfl ?_) | ((with_reducible refine WayR.imp (fun K hK => ?_)); simp (disch := first | omega | (simp only [dls]; omega)) only [std, reduceIte, reduceCtorEq, Int.reduceToNat, Nat.reduceAdd, Nat.reduceSub, Nat.reduceMul, Int.reduceAdd, Int.reduceSub, Int.reduceMul, Int.reduceNeg, fU, hTl, c4, hos, hti, fI, fR]; subst hK) | (apply call_any_g (hsi) rfl; (case hg => simp (disch := first | omega | (simp only [dls]; omega)) only [std, reduceIte, reduceCtorEq, Int.reduceToNat, Nat.reduceAdd, Nat.reduceSub, Nat.reduceMul, Int.reduceAdd, Int.reduceSub, Int.reduceMul, Int.reduceNeg, fU, hTl, c4, hos, hti, fI, fR]); (case hcl => (simp only [evs, St.ev, constAV, evl]; (repeat (first | exact closeAVs_nil | (apply closeAVs_cons; (first | (refine close_own3 rfl (by decide)) | (refine close_ownO rfl (by decide) ?_; assumption) | rfl)))); done)); (case hu => rfl)))
      refine ⟨(i + 1), ?hI2, ?hM2, Fgt.head (Nat.zero_le 3) (false :: true :: true :: false :: false :: true :: false :: true :: false :: false :: false :: false :: false :: false :: false :: false :: false :: false :: false :: false :: false :: false :: false :: false :: false :: false :: false :: false :: false :: false :: false :: false :: false :: false :: false :: false :: false :: false :: false :: false :: false :: false :: false :: false :: false :: false :: false :: false :: false :: false :: false :: false :: false :: false :: false :: false :: false :: false :: false :: false :: false :: false :: false :: false :: false :: false :: false :: false :: false :: false :: false :: false :: false :: false :: false :: false :: false :: false :: false :: false :: false :: false :: false :: false :: false :: false :: false :: false :: false :: false :: false :: false :: false :: false :: false :: false :: false :: false :: false :: false :: false :: false :: false :: false :: false :: true :: true :: true :: []) ?hT2 ?hH2⟩
      case hT2 => first | (simp (disch := omega) only [hds, liveT, cleanAV, cleanCell, clean1, cleanBlk, reduceIte, Int.reduceSub, Int.reduceAdd, Int.reduceNeg]; done) | rfl
      case hH2 => first | (simp (disch := omega) only [hds, liveT, cleanAV, cleanCell, clean1, cleanBlk, reduceIte, Int.reduceSub, Int.reduceAdd, Int.reduceNeg]; done) | rfl
      · omega
      · show (osl s.items).length - (i + 1) < (osl s.items).length - i; omega
    · repeat (first | (with_reducible first | refine Way.imp ?_ | refine blk_o rfl ?_) | ((with_reducible refine WayR.imp (fun K hK => ?_)); simp (disch := first | omega | (simp only [dls]; omega)) only [std, reduceIte, reduceCtorEq, Int.reduceToNat, Nat.reduceAdd, Nat.reduceSub, Nat.reduceMul, Int.reduceAdd, Int.reduceSub, Int.reduceMul, Int.reduceNeg, fU, hTl, c4, hos, hti, fI, fR]; subst hK))
      refine ⟨(i + 1), ?hI3, ?hM3, Fgt.head (Nat.zero_le 3) (false :: true :: true :: false :: false :: true :: false :: true :: false :: false :: false :: false :: false :: false :: false :: false :: false :: false :: false :: false :: false :: false :: false :: false :: false :: false :: false :: false :: false :: false :: false :: false :: false :: false :: false :: false :: false :: false :: false :: false :: false :: false :: false :: false :: false :: false :: false :: false :: false :: false :: false :: false :: false :: false :: false :: false :: false :: false :: false :: false :: false :: false :: false :: false :: false :: false :: false :: false :: false :: false :: false :: false :: false :: false :: false :: false :: false :: false :: false :: false :: false :: false :: false :: false :: false :: false :: false :: false :: false :: false :: false :: false :: false :: false :: false :: false :: false :: false :: false :: false :: false :: false :: false :: false :: false :: true :: true :: true :: []) ?hT3 ?hH3⟩
      case hT3 => first | (simp (disch := omega) only [hds, liveT, cleanAV, cleanCell, clean1, cleanBlk, reduceIte, Int.reduceSub, Int.reduceAdd, Int.reduceNeg]; done) | rfl
      case hH3 => first | (simp (disch := omega) only [hds, liveT, cleanAV, cleanCell, clean1, cleanBlk, reduceIte, Int.reduceSub, Int.reduceAdd, Int.reduceNeg]; done) | rfl
      · omega
      · show (osl s.items).length - (i + 1) < (osl s.items).length - i; omega

end Go.Proofs.Ytdhkdnmefeeclaa
