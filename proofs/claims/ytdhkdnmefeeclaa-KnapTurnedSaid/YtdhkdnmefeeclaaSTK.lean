/- The law KnapTurned: the walk. -/
import Derived.Test.YtdhkdnmefeeclaaSWK
set_option linter.unusedSimpArgs false
set_option linter.unusedVariables false
set_option linter.unnecessarySimpa false
set_option linter.unusedSimpArgs false
set_option linter.unusedVariables false
set_option maxRecDepth 100000
set_option maxHeartbeats 4000000
namespace Go.Proofs.Ytdhkdnmefeeclaa
open Go Go.Am Go.Proofs Go.RowKit Go.Off

/-- Items in another order. -/
theorem turn_at {α : Type} (l : List α) (c k : Nat) (z : α) (hc : c ≤ l.length) (hk : k < l.length) : (l.drop c ++ l.take c).getD k z = l.getD (rotI l.length c k) z := by
  unfold rotI
  rw [List.getD_eq_getElem?_getD, List.getD_eq_getElem?_getD]
  by_cases h : k < l.length - c
  · rw [if_pos h, List.getElem?_append_left (by rw [List.length_drop]; exact h), List.getElem?_drop]
  · rw [if_neg h, List.getElem?_append_right (by rw [List.length_drop]; omega), List.length_drop, List.getElem?_take_of_lt (by omega)]
theorem turn_ok {s : ST} {ws : VV} {c : Nat} (rt : RtS s) (h7 : ∀ k, k < (osl s.items).length → (itAt s k).need ≤ 7) (h4 : (osl s.items).length ≤ 4) (hl : (osl ws).length = (osl s.items).length) (hc : c ≤ (osl s.items).length) :
    rightS ⟨s.roll, some ((osl s.items).drop c ++ (osl s.items).take c)⟩ = true ∧ fewS ⟨s.roll, some ((osl s.items).drop c ++ (osl s.items).take c)⟩ = true ∧
    kvS ⟨s.roll, some ((osl s.items).drop c ++ (osl s.items).take c)⟩ (some ((osl ws).drop c ++ (osl ws).take c)) = kvS s ws := by
  have hlen : (osl (some ((osl s.items).drop c ++ (osl s.items).take c))).length = (osl s.items).length := by
    rw [osl_some, List.length_append, List.length_drop, List.length_take]; omega
  have hit : ∀ k, k < (osl s.items).length → itAt ⟨s.roll, some ((osl s.items).drop c ++ (osl s.items).take c)⟩ k = itAt s (rotI (osl s.items).length c k) := fun k hk => turn_at (osl s.items) c k ⟨0, 0⟩ hc hk
  have hq : ∀ k, k < (osl s.items).length → qAt (some ((osl ws).drop c ++ (osl ws).take c)) k = qAt ws (rotI (osl s.items).length c k) := fun k hk => by
    have := turn_at (osl ws) c k zR (by omega) (by omega)
    unfold qAt rAt
    rw [osl_some, this, hl]
  refine ⟨right_of ⟨rt.roll, by rw [hlen]; exact rt.len, fun k hk => ?_⟩, few_of (by rw [hlen]; exact h4) (fun k hk => ?_), ?_⟩
  · rw [hlen] at hk
    rw [hit k hk]
    exact rt.item _ (rotI_lt hc hk)
  · rw [hlen] at hk
    rw [hit k hk]
    exact h7 _ (rotI_lt hc hk)
  · unfold kvS
    rw [hlen]
    exact (kv_rot hc (fun k hk => by rw [hit k hk]) (fun k hk => by rw [hit k hk]) hq).symm
theorem fits_turn {v : VV} {n L c : Nat} (h : FitsV v n L) : FitsV (some ((osl v).drop c ++ (osl v).take c)) n L := by
  refine ⟨by rw [osl_some, List.length_append, List.length_drop, List.length_take]; have := h.1; omega, fun r hr => ?_⟩
  rw [osl_some] at hr
  rcases List.mem_append.1 hr with hr | hr
  · exact h.2 r (List.mem_of_mem_drop hr)
  · exact h.2 r (List.mem_of_mem_take hr)
theorem osl_mapdrop {α : Type} (v : Option (List α)) (n : Nat) : osl (v.map (·.drop n)) = (osl v).drop n := by cases v <;> simp [osl]
theorem osl_maptake {α : Type} (v : Option (List α)) (n : Nat) : osl (v.map (·.take n)) = (osl v).take n := by cases v <;> simp [osl]

abbrev c23 : CC := (.seq (.reg [⟨(some 3), none, (.box 110 (.tmp 0))⟩, ⟨(some 6), none, (.mv (.const (.bool false)))⟩]) (.seq (.seq (.reg [⟨(some 15), none, (.load 2 true (.tmp 3))⟩, ⟨(some 16), none, (.callf (.func 81) [(.tmp 15)])⟩, ⟨(some 17), none, (.un .not (.tmp 16))⟩, ⟨(some 18), none, (.mv (.tmp 17))⟩, ⟨(some 19), (some (18, false)), (.mv (.tmp 1))⟩, ⟨(some 20), (some (18, false)), (.callf (.func 26) [(.tmp 19)])⟩, ⟨(some 21), (some (18, false)), (.un .not (.tmp 20))⟩, ⟨(some 22), none, (.pick (.tmp 18) (.const (.bool true)) (.tmp 21))⟩, ⟨(some 23), none, (.mv (.tmp 22))⟩, ⟨(some 24), (some (23, false)), (.load 2 true (.tmp 3))⟩, ⟨(some 25), (some (23, false)), (.callf (.func 83) [(.tmp 24)])⟩, ⟨(some 26), (some (23, false)), (.callf (.func 82) [(.tmp 25)])⟩, ⟨(some 27), (some (23, false)), (.un .not (.tmp 26))⟩, ⟨(some 28), none, (.pick (.tmp 23) (.const (.bool true)) (.tmp 27))⟩, ⟨(some 29), none, (.mv (.tmp 28))⟩, ⟨(some 30), (some (29, false)), (.mv (.tmp 1))⟩, ⟨(some 31), (some (29, false)), (.len false (.tmp 30))⟩, ⟨(some 32), (some (29, false)), (.faddr 1 (.tmp 3))⟩, ⟨(some 33), (some (29, false)), (.load 1 false (.tmp 32))⟩, ⟨(some 34), (some (29, false)), (.len false (.tmp 33))⟩, ⟨(some 35), (some (29, false)), (.bin .neq (.tmp 31) (.tmp 34))⟩, ⟨(some 36), none, (.pick (.tmp 29) (.const (.bool true)) (.tmp 35))⟩, ⟨(some 37), none, (.mv (.tmp 36))⟩, ⟨(some 38), (some (37, false)), (.faddr 0 (.tmp 3))⟩, ⟨(some 39), (some (37, false)), (.load 1 false (.tmp 38))⟩, ⟨(some 40), (some (37, false)), (.bin .gtr (.tmp 39) (.const (.int .i64 (512))))⟩, ⟨(some 41), none, (.pick (.tmp 37) (.const (.bool true)) (.tmp 40))⟩, ⟨(some 42), none, (.mv (.tmp 41))⟩, ⟨(some 43), (some (42, false)), (.mv (.tmp 2))⟩, ⟨(some 44), (some (42, false)), (.bin .lss (.tmp 43) (.const (.int .i64 (0))))⟩, ⟨(some 45), none, (.pick (.tmp 42) (.const (.bool true)) (.tmp 44))⟩, ⟨(some 46), none, (.mv (.tmp 45))⟩, ⟨(some 47), (some (46, false)), (.mv (.tmp 2))⟩, ⟨(some 48), (some (46, false)), (.mv (.tmp 1))⟩, ⟨(some 49), (some (46, false)), (.len false (.tmp 48))⟩, ⟨(some 50), (some (46, false)), (.bin .geq (.tmp 47) (.tmp 49))⟩, ⟨(some 51), none, (.pick (.tmp 46) (.const (.bool true)) (.tmp 50))⟩]) (.cond (.tmp 51) (.seq (.reg [⟨(some 52), none, (.callf (.func 84) [])⟩, ⟨(some 6), none, (.mv (.tmp 52))⟩]) .ret) .skip)) (.seq (.regn true [⟨(some 55), none, (.mkrow 121 2 [])⟩, ⟨(some 56), none, (.faddr 1 (.tmp 3))⟩, ⟨(some 57), none, (.load 1 false (.tmp 56))⟩, ⟨(some 58), none, (.mv (.tmp 2))⟩, ⟨(some 59), none, (.cutc 2 (.tmp 57) (some (.tmp 58)) none none)⟩, ⟨(some 60), none, (.append 121 2 16 (.tmp 55) (.tmp 59))⟩, ⟨(some 61), none, (.faddr 1 (.tmp 3))⟩, ⟨(some 62), none, (.load 1 false (.tmp 61))⟩, ⟨(some 63), none, (.mv (.tmp 2))⟩, ⟨(some 64), none, (.cutc 2 (.tmp 62) none (some (.tmp 63)) none)⟩, ⟨(some 65), none, (.append 121 2 16 (.tmp 60) (.tmp 64))⟩, ⟨(some 53), none, (.faddr 0 (.tmp 3))⟩, ⟨(some 54), none, (.load 1 false (.tmp 53))⟩, ⟨(some 66), none, (.build [(.int .i64 (0)), (.slice none 0 0)] [(0, (1, (.tmp 54))), (1, (1, (.tmp 65)))])⟩, ⟨(some 7), none, (.fill 110 [(.int .i64 (0)), (.slice none 0 0)])⟩, ⟨none, none, (.store 2 (.tmp 7) (.tmp 66))⟩]) (.seq (.regn false [⟨(some 67), none, (.mkrow 40 3 [])⟩, ⟨(some 68), none, (.mv (.tmp 1))⟩, ⟨(some 69), none, (.mv (.tmp 2))⟩, ⟨(some 70), none, (.cutc 3 (.tmp 68) (some (.tmp 69)) none none)⟩, ⟨(some 71), none, (.append 40 3 56 (.tmp 67) (.tmp 70))⟩, ⟨(some 72), none, (.mv (.tmp 1))⟩, ⟨(some 73), none, (.mv (.tmp 2))⟩, ⟨(some 74), none, (.cutc 3 (.tmp 72) none (some (.tmp 73)) none)⟩, ⟨(some 75), none, (.append 40 3 56 (.tmp 71) (.tmp 74))⟩, ⟨(some 8), none, (.mv (.tmp 75))⟩]) (.seq (.reg [⟨(some 77), none, (.load 2 true (.tmp 3))⟩, ⟨(some 78), none, (.mv (.tmp 1))⟩, ⟨(some 79), none, (.callf (.func 85) [(.tmp 77), (.tmp 78)])⟩, ⟨(some 76), none, (.mv (.tmp 79))⟩, ⟨(some 80), none, (.ext (.tmp 76) 0)⟩, ⟨(some 81), none, (.ext (.tmp 76) 1)⟩, ⟨(some 9), none, (.new 117 [(.bool false), (.slice none 0 0), (.slice none 0 0), (.slice none 0 0)])⟩, ⟨none, none, (.store 4 (.tmp 9) (.tmp 80))⟩, ⟨(some 10), none, (.mv (.tmp 81))⟩]) (.seq (.reg [⟨(some 83), none, (.load 2 true (.tmp 7))⟩, ⟨(some 84), none, (.mv (.tmp 8))⟩, ⟨(some 85), none, (.callf (.func 85) [(.tmp 83), (.tmp 84)])⟩, ⟨(some 82), none, (.mv (.tmp 85))⟩, ⟨(some 86), none, (.ext (.tmp 82) 0)⟩, ⟨(some 87), none, (.ext (.tmp 82) 1)⟩, ⟨(some 11), none, (.new 117 [(.bool false), (.slice none 0 0), (.slice none 0 0), (.slice none 0 0)])⟩, ⟨none, none, (.store 4 (.tmp 11) (.tmp 86))⟩, ⟨(some 12), none, (.mv (.tmp 87))⟩]) (.seq (.regn true [⟨(some 89), none, (.load 2 true (.tmp 3))⟩, ⟨(some 90), none, (.mv (.tmp 1))⟩, ⟨(some 91), none, (.callf (.func 59) [(.const (.int .i64 (2)))])⟩, ⟨(some 92), none, (.callf (.func 45) [(.tmp 90), (.tmp 91)])⟩, ⟨(some 93), none, (.callf (.func 85) [(.tmp 89), (.tmp 92)])⟩, ⟨(some 88), none, (.mv (.tmp 93))⟩, ⟨(some 94), none, (.ext (.tmp 88) 0)⟩, ⟨(some 95), none, (.ext (.tmp 88) 1)⟩, ⟨(some 13), none, (.fill 117 [(.bool false), (.slice none 0 0), (.slice none 0 0), (.slice none 0 0)])⟩, ⟨none, none, (.store 4 (.tmp 13) (.tmp 94))⟩, ⟨(some 14), none, (.mv (.tmp 95))⟩]) (.seq (.reg [⟨(some 96), none, (.mv (.tmp 10))⟩, ⟨(some 97), none, (.bin .eql (.tmp 96) (.const (.int .i64 (0))))⟩, ⟨(some 98), none, (.mv (.tmp 97))⟩, ⟨(some 99), (some (98, true)), (.mv (.tmp 12))⟩, ⟨(some 100), (some (98, true)), (.bin .eql (.tmp 99) (.const (.int .i64 (0))))⟩, ⟨(some 101), none, (.pick (.tmp 98) (.tmp 100) (.const (.bool false)))⟩, ⟨(some 102), none, (.mv (.tmp 101))⟩, ⟨(some 103), (some (102, true)), (.mv (.tmp 14))⟩, ⟨(some 104), (some (102, true)), (.bin .eql (.tmp 103) (.const (.int .i64 (0))))⟩, ⟨(some 105), none, (.pick (.tmp 102) (.tmp 104) (.const (.bool false)))⟩, ⟨(some 106), none, (.mv (.tmp 105))⟩, ⟨(some 107), (some (106, true)), (.faddr 0 (.tmp 9))⟩, ⟨(some 108), (some (106, true)), (.load 3 true (.tmp 107))⟩, ⟨(some 109), (some (106, true)), (.faddr 0 (.tmp 11))⟩, ⟨(some 110), (some (106, true)), (.load 3 true (.tmp 109))⟩, ⟨(some 111), (some (106, true)), (.callf (.func 46) [(.tmp 108), (.tmp 110)])⟩, ⟨(some 112), (some (106, true)), (.bin .eql (.tmp 111) (.const (.int .i64 (0))))⟩, ⟨(some 113), none, (.pick (.tmp 106) (.tmp 112) (.const (.bool false)))⟩, ⟨(some 114), none, (.mv (.tmp 113))⟩, ⟨(some 115), (some (114, true)), (.faddr 0 (.tmp 13))⟩, ⟨(some 116), (some (114, true)), (.load 3 true (.tmp 115))⟩, ⟨(some 117), (some (114, true)), (.faddr 0 (.tmp 9))⟩, ⟨(some 118), (some (114, true)), (.load 3 true (.tmp 117))⟩, ⟨(some 119), (some (114, true)), (.faddr 0 (.tmp 9))⟩, ⟨(some 120), (some (114, true)), (.load 3 true (.tmp 119))⟩, ⟨(some 121), (some (114, true)), (.callf (.func 47) [(.tmp 118), (.tmp 120)])⟩, ⟨(some 122), (some (114, true)), (.callf (.func 46) [(.tmp 116), (.tmp 121)])⟩, ⟨(some 123), (some (114, true)), (.bin .eql (.tmp 122) (.const (.int .i64 (0))))⟩, ⟨(some 124), none, (.pick (.tmp 114) (.tmp 123) (.const (.bool false)))⟩, ⟨(some 125), none, (.mv (.tmp 124))⟩, ⟨(some 126), (some (125, true)), (.callf (.func 84) [])⟩, ⟨(some 127), none, (.pick (.tmp 125) (.tmp 126) (.const (.bool false)))⟩, ⟨(some 6), none, (.mv (.tmp 127))⟩]) .ret))))))))
theorem cc23 : ccode Try.prog [] (Try.f23.body.getD .skip) = some c23 := by kernel_rfl
theorem body23 : Try.f23.body = some (Try.f23.body.getD .skip) := rfl

theorem knapTurned_C (s : ST) (ws : VV) (k : Int) (hk : -9223372036854775808 ≤ k ∧ k ≤ 9223372036854775807) : PureC Try.prog 23 [aSt s, aV ws, aI k] (.ret (aB true)) := by
  have hfs := fewS_C s
  have hfw := few_C ws
  have haw := awake16_C
  cases c1 : fewS s with
  | false =>
    rw [c1] at hfs
    refine pureC_of (rs := [(RV.tmp 6)]) Try.func23 (fun a w => Try.call23 a w) body23 cc23 (by kernel_rfl) ?_
    rw [Try.ntmps23]
    simp only [frs, Nat.reduceAdd, Nat.reduceSub]
    repeat (first | (with_reducible first | refine Way.imp ?_ | refine blk_o rfl ?_) | ((with_reducible refine WayR.imp (fun K hK => ?_)); simp (disch := first | omega | (simp only [dls]; omega)) only [std, reduceIte, reduceCtorEq, Int.reduceToNat, Nat.reduceAdd, Nat.reduceSub, Nat.reduceMul, Int.reduceAdd, Int.reduceSub, Int.reduceMul, Int.reduceNeg, fU]; subst hK) | refine zcA (hfs) rfl rfl rfl ?_ | refine zcA (haw) rfl rfl rfl ?_)
    exact ⟨_, rfl, rfl⟩
  | true =>
  rw [c1] at hfs
  cases c2 : fewB ws with
  | false =>
    rw [c2] at hfw
    refine pureC_of (rs := [(RV.tmp 6)]) Try.func23 (fun a w => Try.call23 a w) body23 cc23 (by kernel_rfl) ?_
    rw [Try.ntmps23]
    simp only [frs, Nat.reduceAdd, Nat.reduceSub]
    repeat (first | (with_reducible first | refine Way.imp ?_ | refine blk_o rfl ?_) | ((with_reducible refine WayR.imp (fun K hK => ?_)); simp (disch := first | omega | (simp only [dls]; omega)) only [std, reduceIte, reduceCtorEq, Int.reduceToNat, Nat.reduceAdd, Nat.reduceSub, Nat.reduceMul, Int.reduceAdd, Int.reduceSub, Int.reduceMul, Int.reduceNeg, fU]; subst hK) | refine zcA (hfs) rfl rfl rfl ?_ | (apply call_any_g (hfw) rfl; (case hg => simp (disch := first | omega | (simp only [dls]; omega)) only [std, reduceIte, reduceCtorEq, Int.reduceToNat, Nat.reduceAdd, Nat.reduceSub, Nat.reduceMul, Int.reduceAdd, Int.reduceSub, Int.reduceMul, Int.reduceNeg, fU]); (case hcl => (simp only [evs, St.ev, constAV, evl]; (repeat (first | exact closeAVs_nil | (apply closeAVs_cons; (first | (refine close_own3 rfl (by decide)) | (refine close_ownO rfl (by decide) ?_; assumption) | rfl)))); done)); (case hu => rfl)) | refine zcA (haw) rfl rfl rfl ?_)
    exact ⟨_, rfl, rfl⟩
  | true =>
  rw [c2] at hfw
  have fw := fewB_fits c2
  have hw8 := fw.1
  have h4 : (osl s.items).length ≤ 4 := by
    unfold fewS at c1
    simp only [Bool.and_eq_true, decide_eq_true_eq] at c1
    exact c1.2
  have hof := lof10_C s (by omega)
  have hri := right10_C s (by omega)
  cases c3 : rightS s with
  | false =>
    rw [c3] at hri
    generalize dsOf s = D at *
    refine pureC_of (rs := [(RV.tmp 6)]) Try.func23 (fun a w => Try.call23 a w) body23 cc23 (by kernel_rfl) ?_
    rw [Try.ntmps23]
    simp only [frs, Nat.reduceAdd, Nat.reduceSub]
    repeat (first | (with_reducible first | refine Way.imp ?_ | refine blk_o rfl ?_) | ((with_reducible refine WayR.imp (fun K hK => ?_)); simp (disch := first | omega | (simp only [dls]; omega)) only [std, reduceIte, reduceCtorEq, Int.reduceToNat, Nat.reduceAdd, Nat.reduceSub, Nat.reduceMul, Int.reduceAdd, Int.reduceSub, Int.reduceMul, Int.reduceNeg, fU]; subst hK) | refine zcA (hfs) rfl rfl rfl ?_ | (apply call_any_g (hfw) rfl; (case hg => simp (disch := first | omega | (simp only [dls]; omega)) only [std, reduceIte, reduceCtorEq, Int.reduceToNat, Nat.reduceAdd, Nat.reduceSub, Nat.reduceMul, Int.reduceAdd, Int.reduceSub, Int.reduceMul, Int.reduceNeg, fU]); (case hcl => (simp only [evs, St.ev, constAV, evl]; (repeat (first | exact closeAVs_nil | (apply closeAVs_cons; (first | (refine close_own3 rfl (by decide)) | (refine close_ownO rfl (by decide) ?_; assumption) | rfl)))); done)); (case hu => rfl)) | (apply call_any_g (hof) rfl; (case hg => simp (disch := first | omega | (simp only [dls]; omega)) only [std, reduceIte, reduceCtorEq, Int.reduceToNat, Nat.reduceAdd, Nat.reduceSub, Nat.reduceMul, Int.reduceAdd, Int.reduceSub, Int.reduceMul, Int.reduceNeg, fU]); (case hcl => (simp only [evs, St.ev, constAV, evl]; (repeat (first | exact closeAVs_nil | (apply closeAVs_cons; (first | (refine close_own3 rfl (by decide)) | (refine close_ownO rfl (by decide) ?_; assumption) | rfl)))); done)); (case hu => rfl)) | (apply call_any_g (hri) rfl; (case hg => simp (disch := first | omega | (simp only [dls]; omega)) only [std, reduceIte, reduceCtorEq, Int.reduceToNat, Nat.reduceAdd, Nat.reduceSub, Nat.reduceMul, Int.reduceAdd, Int.reduceSub, Int.reduceMul, Int.reduceNeg, fU]); (case hcl => (simp only [evs, St.ev, constAV, evl]; (repeat (first | exact closeAVs_nil | (apply closeAVs_cons; (first | (refine close_own3 rfl (by decide)) | (refine close_ownO rfl (by decide) ?_; assumption) | rfl)))); done)); (case hu => rfl)) | refine zcA (haw) rfl rfl rfl ?_)
    exact ⟨_, rfl, rfl⟩
  | true =>
  rw [c3] at hri
  obtain ⟨hT, _, h7⟩ := few_total c3 c1
  have rt := rtS_of c3
  by_cases c4 : (osl ws).length = (osl s.items).length
  case neg =>
    generalize dsOf s = D at *
    refine pureC_of (rs := [(RV.tmp 6)]) Try.func23 (fun a w => Try.call23 a w) body23 cc23 (by kernel_rfl) ?_
    rw [Try.ntmps23]
    simp only [frs, Nat.reduceAdd, Nat.reduceSub]
    repeat (first | (with_reducible first | refine Way.imp ?_ | refine blk_o rfl ?_) | ((with_reducible refine WayR.imp (fun K hK => ?_)); simp (disch := first | omega | (simp only [dls]; omega)) only [std, reduceIte, reduceCtorEq, Int.reduceToNat, Nat.reduceAdd, Nat.reduceSub, Nat.reduceMul, Int.reduceAdd, Int.reduceSub, Int.reduceMul, Int.reduceNeg, fU]; subst hK) | refine zcA (hfs) rfl rfl rfl ?_ | (apply call_any_g (hfw) rfl; (case hg => simp (disch := first | omega | (simp only [dls]; omega)) only [std, reduceIte, reduceCtorEq, Int.reduceToNat, Nat.reduceAdd, Nat.reduceSub, Nat.reduceMul, Int.reduceAdd, Int.reduceSub, Int.reduceMul, Int.reduceNeg, fU]); (case hcl => (simp only [evs, St.ev, constAV, evl]; (repeat (first | exact closeAVs_nil | (apply closeAVs_cons; (first | (refine close_own3 rfl (by decide)) | (refine close_ownO rfl (by decide) ?_; assumption) | rfl)))); done)); (case hu => rfl)) | (apply call_any_g (hof) rfl; (case hg => simp (disch := first | omega | (simp only [dls]; omega)) only [std, reduceIte, reduceCtorEq, Int.reduceToNat, Nat.reduceAdd, Nat.reduceSub, Nat.reduceMul, Int.reduceAdd, Int.reduceSub, Int.reduceMul, Int.reduceNeg, fU]); (case hcl => (simp only [evs, St.ev, constAV, evl]; (repeat (first | exact closeAVs_nil | (apply closeAVs_cons; (first | (refine close_own3 rfl (by decide)) | (refine close_ownO rfl (by decide) ?_; assumption) | rfl)))); done)); (case hu => rfl)) | (apply call_any_g (hri) rfl; (case hg => simp (disch := first | omega | (simp only [dls]; omega)) only [std, reduceIte, reduceCtorEq, Int.reduceToNat, Nat.reduceAdd, Nat.reduceSub, Nat.reduceMul, Int.reduceAdd, Int.reduceSub, Int.reduceMul, Int.reduceNeg, fU]); (case hcl => (simp only [evs, St.ev, constAV, evl]; (repeat (first | exact closeAVs_nil | (apply closeAVs_cons; (first | (refine close_own3 rfl (by decide)) | (refine close_ownO rfl (by decide) ?_; assumption) | rfl)))); done)); (case hu => rfl)) | refine zcA (haw) rfl rfl rfl ?_)
    exact ⟨_, rfl, rfl⟩
  by_cases c5 : s.roll ≤ 512
  case neg =>
    generalize dsOf s = D at *
    refine pureC_of (rs := [(RV.tmp 6)]) Try.func23 (fun a w => Try.call23 a w) body23 cc23 (by kernel_rfl) ?_
    rw [Try.ntmps23]
    simp only [frs, Nat.reduceAdd, Nat.reduceSub]
    repeat (first | (with_reducible first | refine Way.imp ?_ | refine blk_o rfl ?_) | ((with_reducible refine WayR.imp (fun K hK => ?_)); simp (disch := first | omega | (simp only [dls]; omega)) only [std, reduceIte, reduceCtorEq, Int.reduceToNat, Nat.reduceAdd, Nat.reduceSub, Nat.reduceMul, Int.reduceAdd, Int.reduceSub, Int.reduceMul, Int.reduceNeg, fU, c4]; subst hK) | refine zcA (hfs) rfl rfl rfl ?_ | (apply call_any_g (hfw) rfl; (case hg => simp (disch := first | omega | (simp only [dls]; omega)) only [std, reduceIte, reduceCtorEq, Int.reduceToNat, Nat.reduceAdd, Nat.reduceSub, Nat.reduceMul, Int.reduceAdd, Int.reduceSub, Int.reduceMul, Int.reduceNeg, fU, c4]); (case hcl => (simp only [evs, St.ev, constAV, evl]; (repeat (first | exact closeAVs_nil | (apply closeAVs_cons; (first | (refine close_own3 rfl (by decide)) | (refine close_ownO rfl (by decide) ?_; assumption) | rfl)))); done)); (case hu => rfl)) | (apply call_any_g (hof) rfl; (case hg => simp (disch := first | omega | (simp only [dls]; omega)) only [std, reduceIte, reduceCtorEq, Int.reduceToNat, Nat.reduceAdd, Nat.reduceSub, Nat.reduceMul, Int.reduceAdd, Int.reduceSub, Int.reduceMul, Int.reduceNeg, fU, c4]); (case hcl => (simp only [evs, St.ev, constAV, evl]; (repeat (first | exact closeAVs_nil | (apply closeAVs_cons; (first | (refine close_own3 rfl (by decide)) | (refine close_ownO rfl (by decide) ?_; assumption) | rfl)))); done)); (case hu => rfl)) | (apply call_any_g (hri) rfl; (case hg => simp (disch := first | omega | (simp only [dls]; omega)) only [std, reduceIte, reduceCtorEq, Int.reduceToNat, Nat.reduceAdd, Nat.reduceSub, Nat.reduceMul, Int.reduceAdd, Int.reduceSub, Int.reduceMul, Int.reduceNeg, fU, c4]); (case hcl => (simp only [evs, St.ev, constAV, evl]; (repeat (first | exact closeAVs_nil | (apply closeAVs_cons; (first | (refine close_own3 rfl (by decide)) | (refine close_ownO rfl (by decide) ?_; assumption) | rfl)))); done)); (case hu => rfl)) | refine zcA (haw) rfl rfl rfl ?_)
    exact ⟨_, rfl, rfl⟩
  by_cases k0 : 0 ≤ k
  case neg =>
    generalize dsOf s = D at *
    refine pureC_of (rs := [(RV.tmp 6)]) Try.func23 (fun a w => Try.call23 a w) body23 cc23 (by kernel_rfl) ?_
    rw [Try.ntmps23]
    simp only [frs, Nat.reduceAdd, Nat.reduceSub]
    repeat (first | (with_reducible first | refine Way.imp ?_ | refine blk_o rfl ?_) | ((with_reducible refine WayR.imp (fun K hK => ?_)); simp (disch := first | omega | (simp only [dls]; omega)) only [std, reduceIte, reduceCtorEq, Int.reduceToNat, Nat.reduceAdd, Nat.reduceSub, Nat.reduceMul, Int.reduceAdd, Int.reduceSub, Int.reduceMul, Int.reduceNeg, fU, c4]; subst hK) | refine zcA (hfs) rfl rfl rfl ?_ | (apply call_any_g (hfw) rfl; (case hg => simp (disch := first | omega | (simp only [dls]; omega)) only [std, reduceIte, reduceCtorEq, Int.reduceToNat, Nat.reduceAdd, Nat.reduceSub, Nat.reduceMul, Int.reduceAdd, Int.reduceSub, Int.reduceMul, Int.reduceNeg, fU, c4]); (case hcl => (simp only [evs, St.ev, constAV, evl]; (repeat (first | exact closeAVs_nil | (apply closeAVs_cons; (first | (refine close_own3 rfl (by decide)) | (refine close_ownO rfl (by decide) ?_; assumption) | rfl)))); done)); (case hu => rfl)) | (apply call_any_g (hof) rfl; (case hg => simp (disch := first | omega | (simp only [dls]; omega)) only [std, reduceIte, reduceCtorEq, Int.reduceToNat, Nat.reduceAdd, Nat.reduceSub, Nat.reduceMul, Int.reduceAdd, Int.reduceSub, Int.reduceMul, Int.reduceNeg, fU, c4]); (case hcl => (simp only [evs, St.ev, constAV, evl]; (repeat (first | exact closeAVs_nil | (apply closeAVs_cons; (first | (refine close_own3 rfl (by decide)) | (refine close_ownO rfl (by decide) ?_; assumption) | rfl)))); done)); (case hu => rfl)) | (apply call_any_g (hri) rfl; (case hg => simp (disch := first | omega | (simp only [dls]; omega)) only [std, reduceIte, reduceCtorEq, Int.reduceToNat, Nat.reduceAdd, Nat.reduceSub, Nat.reduceMul, Int.reduceAdd, Int.reduceSub, Int.reduceMul, Int.reduceNeg, fU, c4]); (case hcl => (simp only [evs, St.ev, constAV, evl]; (repeat (first | exact closeAVs_nil | (apply closeAVs_cons; (first | (refine close_own3 rfl (by decide)) | (refine close_ownO rfl (by decide) ?_; assumption) | rfl)))); done)); (case hu => rfl)) | refine zcA (haw) rfl rfl rfl ?_)
    exact ⟨_, rfl, rfl⟩
  obtain ⟨c, hkc⟩ : ∃ c : Nat, k = (c : Int) := ⟨k.toNat, by omega⟩
  subst hkc
  by_cases k1 : c < (osl s.items).length
  case neg =>
    generalize dsOf s = D at *
    refine pureC_of (rs := [(RV.tmp 6)]) Try.func23 (fun a w => Try.call23 a w) body23 cc23 (by kernel_rfl) ?_
    rw [Try.ntmps23]
    simp only [frs, Nat.reduceAdd, Nat.reduceSub]
    repeat (first | (with_reducible first | refine Way.imp ?_ | refine blk_o rfl ?_) | ((with_reducible refine WayR.imp (fun K hK => ?_)); simp (disch := first | omega | (simp only [dls]; omega)) only [std, reduceIte, reduceCtorEq, Int.reduceToNat, Nat.reduceAdd, Nat.reduceSub, Nat.reduceMul, Int.reduceAdd, Int.reduceSub, Int.reduceMul, Int.reduceNeg, fU, c4]; subst hK) | refine zcA (hfs) rfl rfl rfl ?_ | (apply call_any_g (hfw) rfl; (case hg => simp (disch := first | omega | (simp only [dls]; omega)) only [std, reduceIte, reduceCtorEq, Int.reduceToNat, Nat.reduceAdd, Nat.reduceSub, Nat.reduceMul, Int.reduceAdd, Int.reduceSub, Int.reduceMul, Int.reduceNeg, fU, c4]); (case hcl => (simp only [evs, St.ev, constAV, evl]; (repeat (first | exact closeAVs_nil | (apply closeAVs_cons; (first | (refine close_own3 rfl (by decide)) | (refine close_ownO rfl (by decide) ?_; assumption) | rfl)))); done)); (case hu => rfl)) | (apply call_any_g (hof) rfl; (case hg => simp (disch := first | omega | (simp only [dls]; omega)) only [std, reduceIte, reduceCtorEq, Int.reduceToNat, Nat.reduceAdd, Nat.reduceSub, Nat.reduceMul, Int.reduceAdd, Int.reduceSub, Int.reduceMul, Int.reduceNeg, fU, c4]); (case hcl => (simp only [evs, St.ev, constAV, evl]; (repeat (first | exact closeAVs_nil | (apply closeAVs_cons; (first | (refine close_own3 rfl (by decide)) | (refine close_ownO rfl (by decide) ?_; assumption) | rfl)))); done)); (case hu => rfl)) | (apply call_any_g (hri) rfl; (case hg => simp (disch := first | omega | (simp only [dls]; omega)) only [std, reduceIte, reduceCtorEq, Int.reduceToNat, Nat.reduceAdd, Nat.reduceSub, Nat.reduceMul, Int.reduceAdd, Int.reduceSub, Int.reduceMul, Int.reduceNeg, fU, c4]); (case hcl => (simp only [evs, St.ev, constAV, evl]; (repeat (first | exact closeAVs_nil | (apply closeAVs_cons; (first | (refine close_own3 rfl (by decide)) | (refine close_ownO rfl (by decide) ?_; assumption) | rfl)))); done)); (case hu => rfl)) | refine zcA (haw) rfl rfl rfl ?_)
    exact ⟨_, rfl, rfl⟩
  have hb := kbest_C s ws 8 3 fw (by decide) (by decide) (by decide)
  rw [bestR_few c3 c1 c4 c5] at hb
  obtain ⟨a1, a2, a3⟩ := turn_ok (ws := ws) (c := c) rt h7 h4 c4 (by omega)
  have ft := fits_turn (c := c) fw
  have hlt : (osl (some ((osl ws).drop c ++ (osl ws).take c))).length = (osl (some ((osl s.items).drop c ++ (osl s.items).take c))).length := by
    rw [osl_some, osl_some, List.length_append, List.length_append, List.length_drop, List.length_take, List.length_drop, List.length_take]; omega
  have hb2 := kbest_C ⟨s.roll, some ((osl s.items).drop c ++ (osl s.items).take c)⟩ (some ((osl ws).drop c ++ (osl ws).take c)) 8 3 ft (by decide) (by decide) (by decide)
  rw [bestR_few a1 a2 hlt c5, a3] at hb2
  have h2 := rint_C 2 (by omega) (by omega)
  change PureC _ _ _ (.ret (aR (rawQ 2))) at h2
  have fq2 : FitsQ (2 : Rat) 3 := (fits_int 2 (by decide) (by decide)).mono (by decide)
  have hsc := vscale_R ws (rawQ 2) 8 3 fw (fits_rawQ fq2) (by decide) (by decide) (by decide)
  rw [rawQ_val] at hsc
  have fsc : FitsV (rowO ((scaleQ ws 2).map rawQ)) 8 8 := by
    refine ⟨by rw [osl_rowO, List.length_map]; unfold scaleQ; rw [List.length_map]; exact hw8, fun r hr => ?_⟩
    rw [osl_rowO] at hr
    obtain ⟨q, hq, rfl⟩ := List.mem_map.1 hr
    unfold scaleQ at hq
    obtain ⟨x, hx, rfl⟩ := List.mem_map.1 hq
    exact fits_rawQ ((((fw.2 x hx).val (by decide)).mul fq2).mono (by decide))
  have hb3 := kbest_C s (rowO ((scaleQ ws 2).map rawQ)) 8 8 fsc (by decide) (by decide) (by decide)
  have hls : (osl (rowO ((scaleQ ws 2).map rawQ))).length = (osl s.items).length := by rw [osl_rowO, List.length_map]; unfold scaleQ; rw [List.length_map]; exact c4
  have hqs : qAt (rowO ((scaleQ ws 2).map rawQ)) = fun k => qAt ws k * 2 := by
    funext k
    unfold qAt rAt
    rw [osl_rowO, List.getD_eq_getElem?_getD, List.getD_eq_getElem?_getD, List.getElem?_map]
    unfold scaleQ
    rw [List.getElem?_map]
    cases (osl ws)[k]? with
    | none => show zR.val = zR.val * 2; rw [zR_val]; exact (Rat.zero_mul _).symm
    | some r => exact rawQ_val _
  have hk3 : kvS s (rowO ((scaleQ ws 2).map rawQ)) = kvS s ws + kvS s ws := by unfold kvS; rw [hqs]; exact kv_two _ _ _ _ _
  rw [bestR_few c3 c1 hls c5, hk3] at hb3
  have f1 := fits_kv fw (by decide) rfl c3
  have f1' := f1.mono (show totalS s * (3 + 1) + 1 ≤ 1000 by omega)
  have had := radd_C (rawQ (kvS s ws)) (rawQ (kvS s ws)) (fits_rawQ (f1'.mono (by decide))) (fits_rawQ (f1'.mono (by decide)))
  rw [rawQ_val] at had
  have f2 : FitsQ (kvS s ws + kvS s ws) 90000000 := (f1'.add1 f1').mono (by decide)
  have hcm := rcompare_C (rawQ (kvS s ws)) (rawQ (kvS s ws)) (fits_rawQ (f1'.mono (by decide))) (fits_rawQ (f1'.mono (by decide)))
  have hcm2 := rcompare_C (rawQ (kvS s ws + kvS s ws)) (rawQ (kvS s ws + kvS s ws)) (fits_rawQ f2) (fits_rawQ f2)
  have hce : ∀ q : Rat, cmpQ q q = 0 := fun q => by unfold cmpQ; rw [if_neg Rat.lt_irrefl, if_neg Rat.lt_irrefl]
  rw [hce] at hcm hcm2
  generalize rawQ (kvS s ws + kvS s ws) = q2 at *
  generalize rawQ (kvS s ws) = q1 at *
  generalize takesV s ws = T1 at *
  generalize takesV s (rowO ((scaleQ ws 2).map rawQ)) = T3 at *
  generalize takesV ⟨s.roll, some ((osl s.items).drop c ++ (osl s.items).take c)⟩ (some ((osl ws).drop c ++ (osl ws).take c)) = T2 at *
  clear fsc hls hqs hk3
  generalize rowO ((scaleQ ws 2).map rawQ) = w2 at *
  generalize rawQ 2 = qt at *
  generalize dsOf s = D at *
  refine pureC_of (rs := [(RV.tmp 6)]) Try.func23 (fun a w => Try.call23 a w) body23 cc23 (by kernel_rfl) ?_
  rw [Try.ntmps23]
  simp only [frs, Nat.reduceAdd, Nat.reduceSub]
  repeat (first | (with_reducible first | refine Way.imp ?_ | refine blk_o rfl ?_) | ((with_reducible refine WayR.imp (fun K hK => ?_)); simp (disch := first | omega | (simp only [dls]; omega)) only [std, reduceIte, reduceCtorEq, Int.reduceToNat, Nat.reduceAdd, Nat.reduceSub, Nat.reduceMul, Int.reduceAdd, Int.reduceSub, Int.reduceMul, Int.reduceNeg, fU, c4, fItm, fCh, fR, osl_mapdrop, osl_maptake, List.length_drop, List.length_take, List.length_append, encB_append, List.cons_append, List.nil_append, List.map_cons, List.map_nil]; subst hK) | refine zcA (hfs) rfl rfl rfl ?_ | (apply call_any_g (hfw) rfl; (case hg => simp (disch := first | omega | (simp only [dls]; omega)) only [std, reduceIte, reduceCtorEq, Int.reduceToNat, Nat.reduceAdd, Nat.reduceSub, Nat.reduceMul, Int.reduceAdd, Int.reduceSub, Int.reduceMul, Int.reduceNeg, fU, c4, fItm, fCh, fR, osl_mapdrop, osl_maptake, List.length_drop, List.length_take, List.length_append, encB_append, List.cons_append, List.nil_append, List.map_cons, List.map_nil]); (case hcl => (simp only [evs, St.ev, constAV, evl]; (repeat (first | exact closeAVs_nil | (apply closeAVs_cons; (first | (refine close_own3 rfl (by decide)) | (refine close_ownO rfl (by decide) ?_; assumption) | rfl)))); done)); (case hu => rfl)) | (apply call_any_g (hof) rfl; (case hg => simp (disch := first | omega | (simp only [dls]; omega)) only [std, reduceIte, reduceCtorEq, Int.reduceToNat, Nat.reduceAdd, Nat.reduceSub, Nat.reduceMul, Int.reduceAdd, Int.reduceSub, Int.reduceMul, Int.reduceNeg, fU, c4, fItm, fCh, fR, osl_mapdrop, osl_maptake, List.length_drop, List.length_take, List.length_append, encB_append, List.cons_append, List.nil_append, List.map_cons, List.map_nil]); (case hcl => (simp only [evs, St.ev, constAV, evl]; (repeat (first | exact closeAVs_nil | (apply closeAVs_cons; (first | (refine close_own3 rfl (by decide)) | (refine close_ownO rfl (by decide) ?_; assumption) | rfl)))); done)); (case hu => rfl)) | (apply call_any_g (hri) rfl; (case hg => simp (disch := first | omega | (simp only [dls]; omega)) only [std, reduceIte, reduceCtorEq, Int.reduceToNat, Nat.reduceAdd, Nat.reduceSub, Nat.reduceMul, Int.reduceAdd, Int.reduceSub, Int.reduceMul, Int.reduceNeg, fU, c4, fItm, fCh, fR, osl_mapdrop, osl_maptake, List.length_drop, List.length_take, List.length_append, encB_append, List.cons_append, List.nil_append, List.map_cons, List.map_nil]); (case hcl => (simp only [evs, St.ev, constAV, evl]; (repeat (first | exact closeAVs_nil | (apply closeAVs_cons; (first | (refine close_own3 rfl (by decide)) | (refine close_ownO rfl (by decide) ?_; assumption) | rfl)))); done)); (case hu => rfl)) | refine zcA (hb) rfl rfl rfl ?_ | (apply call_ret (hb2) rfl; (case hcl => (simp only [evs, St.ev, constAV, evl]; (repeat (first | exact closeAVs_nil | (apply closeAVs_cons; (first | (refine close_own3 rfl (by decide)) | (refine close_ownO rfl (by decide) ?_; assumption) | rfl | exact close_St rfl)))); done)); (case hf => exact flat_Ch ..); (case hu => (simp only [evs, St.ev, constAV, evl]; (repeat (first | exact used_nil | (apply used_cons; (first | (apply used_own3; rfl) | exact used_St rfl | rfl)))); done)); (case hh => ((simp only [fzl, Nat.reduceBEq, Nat.reduceAdd, Bool.false_eq_true, if_true, if_false, reduceIte]) <;> rfl))) | refine zcA (h2) rfl rfl rfl ?_ | refine zcA (hsc) rfl rfl rfl ?_ | refine zcA (hb3) rfl rfl rfl ?_ | (apply call_any_g (hcm) rfl; (case hg => simp (disch := first | omega | (simp only [dls]; omega)) only [std, reduceIte, reduceCtorEq, Int.reduceToNat, Nat.reduceAdd, Nat.reduceSub, Nat.reduceMul, Int.reduceAdd, Int.reduceSub, Int.reduceMul, Int.reduceNeg, fU, c4, fItm, fCh, fR, osl_mapdrop, osl_maptake, List.length_drop, List.length_take, List.length_append, encB_append, List.cons_append, List.nil_append, List.map_cons, List.map_nil]); (case hcl => (simp only [evs, St.ev, constAV, evl]; (repeat (first | exact closeAVs_nil | (apply closeAVs_cons; (first | (refine close_own3 rfl (by decide)) | (refine close_ownO rfl (by decide) ?_; assumption) | rfl)))); done)); (case hu => rfl)) | (apply call_any_g (had) rfl; (case hg => simp (disch := first | omega | (simp only [dls]; omega)) only [std, reduceIte, reduceCtorEq, Int.reduceToNat, Nat.reduceAdd, Nat.reduceSub, Nat.reduceMul, Int.reduceAdd, Int.reduceSub, Int.reduceMul, Int.reduceNeg, fU, c4, fItm, fCh, fR, osl_mapdrop, osl_maptake, List.length_drop, List.length_take, List.length_append, encB_append, List.cons_append, List.nil_append, List.map_cons, List.map_nil]); (case hcl => (simp only [evs, St.ev, constAV, evl]; (repeat (first | exact closeAVs_nil | (apply closeAVs_cons; (first | (refine close_own3 rfl (by decide)) | (refine close_ownO rfl (by decide) ?_; assumption) | rfl)))); done)); (case hu => rfl)) | (apply call_any_g (hcm2) rfl; (case hg => simp (disch := first | omega | (simp only [dls]; omega)) only [std, reduceIte, reduceCtorEq, Int.reduceToNat, Nat.reduceAdd, Nat.reduceSub, Nat.reduceMul, Int.reduceAdd, Int.reduceSub, Int.reduceMul, Int.reduceNeg, fU, c4, fItm, fCh, fR, osl_mapdrop, osl_maptake, List.length_drop, List.length_take, List.length_append, encB_append, List.cons_append, List.nil_append, List.map_cons, List.map_nil]); (case hcl => (simp only [evs, St.ev, constAV, evl]; (repeat (first | exact closeAVs_nil | (apply closeAVs_cons; (first | (refine close_own3 rfl (by decide)) | (refine close_ownO rfl (by decide) ?_; assumption) | rfl)))); done)); (case hu => rfl)) | (apply call_any_g (haw) rfl; (case hg => simp (disch := first | omega | (simp only [dls]; omega)) only [std, reduceIte, reduceCtorEq, Int.reduceToNat, Nat.reduceAdd, Nat.reduceSub, Nat.reduceMul, Int.reduceAdd, Int.reduceSub, Int.reduceMul, Int.reduceNeg, fU, c4, fItm, fCh, fR, osl_mapdrop, osl_maptake, List.length_drop, List.length_take, List.length_append, encB_append, List.cons_append, List.nil_append, List.map_cons, List.map_nil]); (case hcl => (simp only [evs, St.ev, constAV, evl]; (repeat (first | exact closeAVs_nil | (apply closeAVs_cons; (first | (refine close_own3 rfl (by decide)) | (refine close_ownO rfl (by decide) ?_; assumption) | rfl)))); done)); (case hu => rfl)))
  exact ⟨_, rfl, rfl⟩

end Go.Proofs.Ytdhkdnmefeeclaa
