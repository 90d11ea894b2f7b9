/- The law KnapWider: the walk. -/
import Derived.Test.YtdhkdnmefeeclaaJD
import Derived.Test.YtdhkdnmefeeclaaJE
set_option linter.unusedSimpArgs false
set_option linter.unusedVariables false
set_option linter.unnecessarySimpa false
set_option linter.unusedSimpArgs false
set_option linter.unusedVariables false
set_option maxRecDepth 100000
set_option maxHeartbeats 4000000
namespace Go.Proofs.Ytdhkdnmefeeclaa
open Go Go.Am Go.Proofs Go.RowKit Go.Off

theorem few_of {s : ST} (h1 : (osl s.items).length ≤ 4) (h2 : ∀ k, k < (osl s.items).length → (itAt s k).need ≤ 7) : fewS s = true := by
  unfold fewS
  rw [decide_eq_true h1, Bool.and_true]
  unfold allK
  rw [List.all_eq_true]
  intro k hk
  have hk := List.mem_range.1 hk
  exact decide_eq_true (h2 k (by omega))
theorem right_of {s : ST} (h : RtS s) : rightS s = true := by
  unfold rightS inB
  have : anyI (itBad s) (osl s.items).length = false := anyI_of (fun i hi => by
    obtain ⟨⟨a1, a2⟩, b1, b2⟩ := h.item i hi
    unfold itBad itemB inB
    simp [a1, a2, b1, b2])
  rw [this]
  simp [h.roll.1, h.roll.2, h.len]
theorem bestR_few {s : ST} {ws : VV} (hr : rightS s = true) (hf : fewS s = true) (hl : (osl ws).length = (osl s.items).length) (h : s.roll ≤ 512) : bestR s ws = aCh (rawQ (kvS s ws)) (some (takesV s ws)) 0 := by
  obtain ⟨hT, _, _⟩ := few_total hr hf
  unfold bestR
  rw [if_neg (by rw [hr]; simp), if_neg (fun h2 => h2 hl), if_neg (by omega), bestV_kv]

/-- A stock whose roll is wider, and perhaps one more of an item. -/
theorem wider_ok {s t : ST} {ws : VV} (rt : RtS s) (h7 : ∀ k, k < (osl s.items).length → (itAt s k).need ≤ 7) (h4 : (osl s.items).length ≤ 4) (hr : s.roll ≤ t.roll ∧ t.roll ≤ 512) (hl : (osl t.items).length = (osl s.items).length)
    (hi : ∀ k, k < (osl s.items).length → (itAt t k).width = (itAt s k).width ∧ (itAt s k).need ≤ (itAt t k).need ∧ (itAt t k).need ≤ 7) :
    rightS t = true ∧ fewS t = true ∧ kvS s ws ≤ kvS t ws := by
  have r1 := rt.roll
  refine ⟨right_of ⟨by omega, by omega, fun k hk => ?_⟩, few_of (by omega) (fun k hk => (hi k (by omega)).2.2), ?_⟩
  · have h1 := rt.item k (by omega)
    have h2 := hi k (by omega)
    rw [h2.1]
    exact ⟨h1.1, by omega, by omega⟩
  · unfold kvS
    rw [hl]
    obtain ⟨n, h1, h2, h3⟩ := kv_at (osl s.items).length (fun k => (itAt s k).width) (fun k => (itAt s k).need) (qAt ws) s.roll.toNat
    rw [← h3]
    refine kv_ge (fun k hk => ?_) ?_
    · have := h1 k hk; have := (hi k hk).2.1; omega
    · have e : sumN (osl s.items).length (fun k => n k * (itAt t k).width.toNat) = sumN (osl s.items).length (fun k => n k * (itAt s k).width.toNat) := sumN_congr (fun k hk => by rw [(hi k hk).1])
      rw [e]
      omega
theorem close_St {h : List Blk} {b ver ty : Nat} {live : Bool} {l : List Itm} {x : CV} (hk : h[b]? = some ⟨ver, ty, 2, encB fItm l, live, true⟩) : closeAV h 3 (.agg [.c x, .own b ver]) = some (.agg [.c x, .c (encSl 2 fItm (some l))]) := by
  have e1 : closeCV h 3 (.own b ver) = some (encSl 2 fItm (some l)) := by
    simp [closeCV, hk, mapM_encB, encSl]
  simp [closeAV, closeFn, closeCell, closeCV] at *
  simp [e1]
theorem used_St {h : List Blk} {b ver ty : Nat} {live : Bool} {l : List Itm} {x : CV} (hk : h[b]? = some ⟨ver, ty, 2, encB fItm l, live, true⟩) : usedAV h 3 (.agg [.c x, .own b ver]) = [b] := by
  have e1 := used_own3 (f := fItm) hk
  simp [usedAV, usedCV] at *
  exact e1
theorem flat_Ch14 (v : RR) (t : List Int) (e : Int) : flatAV (aCh v (some t) e) = false := flat_Ch v t e

abbrev aU8 (z : Int) : AV := .one (.c (.val (.int .u8 z)))
abbrev c20 : CC := (.seq (.reg [⟨(some 4), none, (.box 110 (.tmp 0))⟩, ⟨(some 8), none, (.mv (.const (.bool false)))⟩]) (.seq (.seq (.reg [⟨(some 14), none, (.load 2 true (.tmp 4))⟩, ⟨(some 15), none, (.callf (.func 81) [(.tmp 14)])⟩, ⟨(some 16), none, (.un .not (.tmp 15))⟩, ⟨(some 17), none, (.mv (.tmp 16))⟩, ⟨(some 18), (some (17, false)), (.mv (.tmp 1))⟩, ⟨(some 19), (some (17, false)), (.callf (.func 26) [(.tmp 18)])⟩, ⟨(some 20), (some (17, false)), (.un .not (.tmp 19))⟩, ⟨(some 21), none, (.pick (.tmp 17) (.const (.bool true)) (.tmp 20))⟩, ⟨(some 22), none, (.mv (.tmp 21))⟩, ⟨(some 23), (some (22, false)), (.load 2 true (.tmp 4))⟩, ⟨(some 24), (some (22, false)), (.callf (.func 83) [(.tmp 23)])⟩, ⟨(some 25), (some (22, false)), (.callf (.func 82) [(.tmp 24)])⟩, ⟨(some 26), (some (22, false)), (.un .not (.tmp 25))⟩, ⟨(some 27), none, (.pick (.tmp 22) (.const (.bool true)) (.tmp 26))⟩, ⟨(some 28), none, (.mv (.tmp 27))⟩, ⟨(some 29), (some (28, false)), (.mv (.tmp 1))⟩, ⟨(some 30), (some (28, false)), (.len false (.tmp 29))⟩, ⟨(some 31), (some (28, false)), (.faddr 1 (.tmp 4))⟩, ⟨(some 32), (some (28, false)), (.load 1 false (.tmp 31))⟩, ⟨(some 33), (some (28, false)), (.len false (.tmp 32))⟩, ⟨(some 34), (some (28, false)), (.bin .neq (.tmp 30) (.tmp 33))⟩, ⟨(some 35), none, (.pick (.tmp 28) (.const (.bool true)) (.tmp 34))⟩, ⟨(some 36), none, (.mv (.tmp 35))⟩, ⟨(some 37), (some (36, false)), (.faddr 0 (.tmp 4))⟩, ⟨(some 38), (some (36, false)), (.load 1 false (.tmp 37))⟩, ⟨(some 39), (some (36, false)), (.bin .gtr (.tmp 38) (.const (.int .i64 (400))))⟩, ⟨(some 40), none, (.pick (.tmp 36) (.const (.bool true)) (.tmp 39))⟩]) (.cond (.tmp 40) (.seq (.reg [⟨(some 41), none, (.callf (.func 84) [])⟩, ⟨(some 8), none, (.mv (.tmp 41))⟩]) .ret) .skip)) (.seq (.reg [⟨(some 43), none, (.load 2 true (.tmp 4))⟩, ⟨(some 44), none, (.mv (.tmp 1))⟩, ⟨(some 45), none, (.callf (.func 85) [(.tmp 43), (.tmp 44)])⟩, ⟨(some 42), none, (.mv (.tmp 45))⟩, ⟨(some 46), none, (.ext (.tmp 42) 0)⟩, ⟨(some 47), none, (.ext (.tmp 42) 1)⟩, ⟨(some 9), none, (.new 117 [(.bool false), (.slice none 0 0), (.slice none 0 0), (.slice none 0 0)])⟩, ⟨none, none, (.store 4 (.tmp 9) (.tmp 46))⟩, ⟨(some 10), none, (.mv (.tmp 47))⟩]) (.seq (.regn true [⟨(some 54), none, (.mkrow 121 2 [])⟩, ⟨(some 55), none, (.faddr 1 (.tmp 4))⟩, ⟨(some 56), none, (.load 1 false (.tmp 55))⟩, ⟨(some 57), none, (.append 121 2 16 (.tmp 54) (.tmp 56))⟩, ⟨(some 48), none, (.faddr 0 (.tmp 4))⟩, ⟨(some 49), none, (.load 1 false (.tmp 48))⟩, ⟨(some 50), none, (.mv (.tmp 3))⟩, ⟨(some 51), none, (.conv .i64 (.tmp 50))⟩, ⟨(some 52), none, (.bin .rem (.tmp 51) (.const (.int .i64 (100))))⟩, ⟨(some 53), none, (.bin .add (.tmp 49) (.tmp 52))⟩, ⟨(some 58), none, (.build [(.int .i64 (0)), (.slice none 0 0)] [(0, (1, (.tmp 53))), (1, (1, (.tmp 57)))])⟩, ⟨(some 11), none, (.fill 110 [(.int .i64 (0)), (.slice none 0 0)])⟩, ⟨none, none, (.store 2 (.tmp 11) (.tmp 58))⟩]) (.seq (.seq (.reg [⟨(some 59), none, (.mv (.tmp 2))⟩, ⟨(some 60), none, (.bin .geq (.tmp 59) (.const (.int .i64 (0))))⟩, ⟨(some 61), none, (.mv (.tmp 60))⟩, ⟨(some 62), (some (61, true)), (.mv (.tmp 2))⟩, ⟨(some 63), (some (61, true)), (.faddr 1 (.tmp 11))⟩, ⟨(some 64), (some (61, true)), (.load 1 false (.tmp 63))⟩, ⟨(some 65), (some (61, true)), (.len false (.tmp 64))⟩, ⟨(some 66), (some (61, true)), (.bin .lss (.tmp 62) (.tmp 65))⟩, ⟨(some 67), none, (.pick (.tmp 61) (.tmp 66) (.const (.bool false)))⟩, ⟨(some 68), none, (.mv (.tmp 67))⟩, ⟨(some 69), (some (68, true)), (.faddr 1 (.tmp 11))⟩, ⟨(some 70), (some (68, true)), (.load 1 false (.tmp 69))⟩, ⟨(some 71), (some (68, true)), (.mv (.tmp 2))⟩, ⟨(some 72), (some (68, true)), (.iaddr 2 none (.tmp 70) (.tmp 71))⟩, ⟨(some 73), (some (68, true)), (.faddr 1 (.tmp 72))⟩, ⟨(some 74), (some (68, true)), (.load 1 false (.tmp 73))⟩, ⟨(some 75), (some (68, true)), (.bin .lss (.tmp 74) (.const (.int .i64 (7))))⟩, ⟨(some 76), none, (.pick (.tmp 68) (.tmp 75) (.const (.bool false)))⟩]) (.cond (.tmp 76) (.reg [⟨(some 77), none, (.faddr 1 (.tmp 11))⟩, ⟨(some 78), none, (.load 1 false (.tmp 77))⟩, ⟨(some 79), none, (.mv (.tmp 2))⟩, ⟨(some 80), none, (.iaddr 2 none (.tmp 78) (.tmp 79))⟩, ⟨(some 81), none, (.faddr 1 (.tmp 80))⟩, ⟨(some 82), none, (.load 1 false (.tmp 81))⟩, ⟨(some 83), none, (.bin .add (.tmp 82) (.const (.int .i64 (1))))⟩, ⟨(some 84), none, (.iaddr 2 none (.tmp 78) (.tmp 79))⟩, ⟨(some 85), none, (.faddr 1 (.tmp 84))⟩, ⟨none, none, (.store 1 (.tmp 85) (.tmp 83))⟩]) .skip)) (.seq (.reg [⟨(some 87), none, (.load 2 true (.tmp 11))⟩, ⟨(some 88), none, (.mv (.tmp 1))⟩, ⟨(some 89), none, (.callf (.func 85) [(.tmp 87), (.tmp 88)])⟩, ⟨(some 86), none, (.mv (.tmp 89))⟩, ⟨(some 90), none, (.ext (.tmp 86) 0)⟩, ⟨(some 91), none, (.ext (.tmp 86) 1)⟩, ⟨(some 12), none, (.new 117 [(.bool false), (.slice none 0 0), (.slice none 0 0), (.slice none 0 0)])⟩, ⟨none, none, (.store 4 (.tmp 12) (.tmp 90))⟩, ⟨(some 13), none, (.mv (.tmp 91))⟩]) (.seq (.reg [⟨(some 92), none, (.mv (.tmp 10))⟩, ⟨(some 93), none, (.bin .eql (.tmp 92) (.const (.int .i64 (0))))⟩, ⟨(some 94), none, (.mv (.tmp 93))⟩, ⟨(some 95), (some (94, true)), (.mv (.tmp 13))⟩, ⟨(some 96), (some (94, true)), (.bin .eql (.tmp 95) (.const (.int .i64 (0))))⟩, ⟨(some 97), none, (.pick (.tmp 94) (.tmp 96) (.const (.bool false)))⟩, ⟨(some 98), none, (.mv (.tmp 97))⟩, ⟨(some 99), (some (98, true)), (.faddr 0 (.tmp 9))⟩, ⟨(some 100), (some (98, true)), (.load 3 true (.tmp 99))⟩, ⟨(some 101), (some (98, true)), (.faddr 0 (.tmp 12))⟩, ⟨(some 102), (some (98, true)), (.load 3 true (.tmp 101))⟩, ⟨(some 103), (some (98, true)), (.callf (.func 46) [(.tmp 100), (.tmp 102)])⟩, ⟨(some 104), (some (98, true)), (.bin .leq (.tmp 103) (.const (.int .i64 (0))))⟩, ⟨(some 105), none, (.pick (.tmp 98) (.tmp 104) (.const (.bool false)))⟩, ⟨(some 106), none, (.mv (.tmp 105))⟩, ⟨(some 107), (some (106, true)), (.callf (.func 84) [])⟩, ⟨(some 108), none, (.pick (.tmp 106) (.tmp 107) (.const (.bool false)))⟩, ⟨(some 8), none, (.mv (.tmp 108))⟩]) .ret)))))))
theorem cc20 : ccode Try.prog [] (Try.f20.body.getD .skip) = some c20 := by kernel_rfl
theorem body20 : Try.f20.body = some (Try.f20.body.getD .skip) := rfl

theorem knapWider_C (s : ST) (ws : VV) (k more : Int) (hk : -9223372036854775808 ≤ k ∧ k ≤ 9223372036854775807) (hm : 0 ≤ more ∧ more ≤ 255) : PureC Try.prog 20 [aSt s, aV ws, aI k, aU8 more] (.ret (aB true)) := by
  have hfs := fewS_C s
  have hfw := few_C ws
  have haw := awake16_C
  cases c1 : fewS s with
  | false =>
    rw [c1] at hfs
    refine pureC_of (rs := [(RV.tmp 8)]) Try.func20 (fun a w => Try.call20 a w) body20 cc20 (by kernel_rfl) ?_
    rw [Try.ntmps20]
    simp only [frs, Nat.reduceAdd, Nat.reduceSub]
    repeat (first | (with_reducible first | refine Way.imp ?_ | refine blk_o rfl ?_) | ((with_reducible refine WayR.imp (fun K hK => ?_)); simp (disch := first | omega | (simp only [dls]; omega)) only [std, reduceIte, reduceCtorEq, Int.reduceToNat, Nat.reduceAdd, Nat.reduceSub, Nat.reduceMul, Int.reduceAdd, Int.reduceSub, Int.reduceMul, Int.reduceNeg, fU]; subst hK) | refine zcA (hfs) rfl rfl rfl ?_ | refine zcA (haw) rfl rfl rfl ?_)
    exact ⟨_, rfl, rfl⟩
  | true =>
  rw [c1] at hfs
  cases c2 : fewB ws with
  | false =>
    rw [c2] at hfw
    refine pureC_of (rs := [(RV.tmp 8)]) Try.func20 (fun a w => Try.call20 a w) body20 cc20 (by kernel_rfl) ?_
    rw [Try.ntmps20]
    simp only [frs, Nat.reduceAdd, Nat.reduceSub]
    repeat (first | (with_reducible first | refine Way.imp ?_ | refine blk_o rfl ?_) | ((with_reducible refine WayR.imp (fun K hK => ?_)); simp (disch := first | omega | (simp only [dls]; omega)) only [std, reduceIte, reduceCtorEq, Int.reduceToNat, Nat.reduceAdd, Nat.reduceSub, Nat.reduceMul, Int.reduceAdd, Int.reduceSub, Int.reduceMul, Int.reduceNeg, fU]; subst hK) | refine zcA (hfs) rfl rfl rfl ?_ | (apply call_any_g (hfw) rfl; (case hg => simp (disch := first | omega | (simp only [dls]; omega)) only [std, reduceIte, reduceCtorEq, Int.reduceToNat, Nat.reduceAdd, Nat.reduceSub, Nat.reduceMul, Int.reduceAdd, Int.reduceSub, Int.reduceMul, Int.reduceNeg, fU]); (case hcl => (simp only [evs, St.ev, constAV, evl]; (repeat (first | exact closeAVs_nil | (apply closeAVs_cons; (first | (refine close_own3 rfl (by decide)) | (refine close_ownO rfl (by decide) ?_; assumption) | rfl)))); done)); (case hu => rfl)) | refine zcA (haw) rfl rfl rfl ?_)
    exact ⟨_, rfl, rfl⟩
  | true =>
  rw [c2] at hfw
  have fw := fewB_fits c2
  have hw8 := fw.1
  have h4 : (osl s.items).length ≤ 4 := by
    unfold fewS at c1
    simp only [Bool.and_eq_true, decide_eq_true_eq] at c1
    exact c1.2
  have hof := lof10_C s (by omega)
  have hri := right10_C s (by omega)
  cases c3 : rightS s with
  | false =>
    rw [c3] at hri
    generalize dsOf s = D at *
    refine pureC_of (rs := [(RV.tmp 8)]) Try.func20 (fun a w => Try.call20 a w) body20 cc20 (by kernel_rfl) ?_
    rw [Try.ntmps20]
    simp only [frs, Nat.reduceAdd, Nat.reduceSub]
    repeat (first | (with_reducible first | refine Way.imp ?_ | refine blk_o rfl ?_) | ((with_reducible refine WayR.imp (fun K hK => ?_)); simp (disch := first | omega | (simp only [dls]; omega)) only [std, reduceIte, reduceCtorEq, Int.reduceToNat, Nat.reduceAdd, Nat.reduceSub, Nat.reduceMul, Int.reduceAdd, Int.reduceSub, Int.reduceMul, Int.reduceNeg, fU]; subst hK) | refine zcA (hfs) rfl rfl rfl ?_ | (apply call_any_g (hfw) rfl; (case hg => simp (disch := first | omega | (simp only [dls]; omega)) only [std, reduceIte, reduceCtorEq, Int.reduceToNat, Nat.reduceAdd, Nat.reduceSub, Nat.reduceMul, Int.reduceAdd, Int.reduceSub, Int.reduceMul, Int.reduceNeg, fU]); (case hcl => (simp only [evs, St.ev, constAV, evl]; (repeat (first | exact closeAVs_nil | (apply closeAVs_cons; (first | (refine close_own3 rfl (by decide)) | (refine close_ownO rfl (by decide) ?_; assumption) | rfl)))); done)); (case hu => rfl)) | (apply call_any_g (hof) rfl; (case hg => simp (disch := first | omega | (simp only [dls]; omega)) only [std, reduceIte, reduceCtorEq, Int.reduceToNat, Nat.reduceAdd, Nat.reduceSub, Nat.reduceMul, Int.reduceAdd, Int.reduceSub, Int.reduceMul, Int.reduceNeg, fU]); (case hcl => (simp only [evs, St.ev, constAV, evl]; (repeat (first | exact closeAVs_nil | (apply closeAVs_cons; (first | (refine close_own3 rfl (by decide)) | (refine close_ownO rfl (by decide) ?_; assumption) | rfl)))); done)); (case hu => rfl)) | (apply call_any_g (hri) rfl; (case hg => simp (disch := first | omega | (simp only [dls]; omega)) only [std, reduceIte, reduceCtorEq, Int.reduceToNat, Nat.reduceAdd, Nat.reduceSub, Nat.reduceMul, Int.reduceAdd, Int.reduceSub, Int.reduceMul, Int.reduceNeg, fU]); (case hcl => (simp only [evs, St.ev, constAV, evl]; (repeat (first | exact closeAVs_nil | (apply closeAVs_cons; (first | (refine close_own3 rfl (by decide)) | (refine close_ownO rfl (by decide) ?_; assumption) | rfl)))); done)); (case hu => rfl)) | refine zcA (haw) rfl rfl rfl ?_)
    exact ⟨_, rfl, rfl⟩
  | true =>
  rw [c3] at hri
  obtain ⟨hT, _, h7⟩ := few_total c3 c1
  have rt := rtS_of c3
  by_cases c4 : (osl ws).length = (osl s.items).length
  case neg =>
    generalize dsOf s = D at *
    refine pureC_of (rs := [(RV.tmp 8)]) Try.func20 (fun a w => Try.call20 a w) body20 cc20 (by kernel_rfl) ?_
    rw [Try.ntmps20]
    simp only [frs, Nat.reduceAdd, Nat.reduceSub]
    repeat (first | (with_reducible first | refine Way.imp ?_ | refine blk_o rfl ?_) | ((with_reducible refine WayR.imp (fun K hK => ?_)); simp (disch := first | omega | (simp only [dls]; omega)) only [std, reduceIte, reduceCtorEq, Int.reduceToNat, Nat.reduceAdd, Nat.reduceSub, Nat.reduceMul, Int.reduceAdd, Int.reduceSub, Int.reduceMul, Int.reduceNeg, fU]; subst hK) | refine zcA (hfs) rfl rfl rfl ?_ | (apply call_any_g (hfw) rfl; (case hg => simp (disch := first | omega | (simp only [dls]; omega)) only [std, reduceIte, reduceCtorEq, Int.reduceToNat, Nat.reduceAdd, Nat.reduceSub, Nat.reduceMul, Int.reduceAdd, Int.reduceSub, Int.reduceMul, Int.reduceNeg, fU]); (case hcl => (simp only [evs, St.ev, constAV, evl]; (repeat (first | exact closeAVs_nil | (apply closeAVs_cons; (first | (refine close_own3 rfl (by decide)) | (refine close_ownO rfl (by decide) ?_; assumption) | rfl)))); done)); (case hu => rfl)) | (apply call_any_g (hof) rfl; (case hg => simp (disch := first | omega | (simp only [dls]; omega)) only [std, reduceIte, reduceCtorEq, Int.reduceToNat, Nat.reduceAdd, Nat.reduceSub, Nat.reduceMul, Int.reduceAdd, Int.reduceSub, Int.reduceMul, Int.reduceNeg, fU]); (case hcl => (simp only [evs, St.ev, constAV, evl]; (repeat (first | exact closeAVs_nil | (apply closeAVs_cons; (first | (refine close_own3 rfl (by decide)) | (refine close_ownO rfl (by decide) ?_; assumption) | rfl)))); done)); (case hu => rfl)) | (apply call_any_g (hri) rfl; (case hg => simp (disch := first | omega | (simp only [dls]; omega)) only [std, reduceIte, reduceCtorEq, Int.reduceToNat, Nat.reduceAdd, Nat.reduceSub, Nat.reduceMul, Int.reduceAdd, Int.reduceSub, Int.reduceMul, Int.reduceNeg, fU]); (case hcl => (simp only [evs, St.ev, constAV, evl]; (repeat (first | exact closeAVs_nil | (apply closeAVs_cons; (first | (refine close_own3 rfl (by decide)) | (refine close_ownO rfl (by decide) ?_; assumption) | rfl)))); done)); (case hu => rfl)) | refine zcA (haw) rfl rfl rfl ?_)
    exact ⟨_, rfl, rfl⟩
  by_cases c5 : s.roll ≤ 400
  case neg =>
    generalize dsOf s = D at *
    refine pureC_of (rs := [(RV.tmp 8)]) Try.func20 (fun a w => Try.call20 a w) body20 cc20 (by kernel_rfl) ?_
    rw [Try.ntmps20]
    simp only [frs, Nat.reduceAdd, Nat.reduceSub]
    repeat (first | (with_reducible first | refine Way.imp ?_ | refine blk_o rfl ?_) | ((with_reducible refine WayR.imp (fun K hK => ?_)); simp (disch := first | omega | (simp only [dls]; omega)) only [std, reduceIte, reduceCtorEq, Int.reduceToNat, Nat.reduceAdd, Nat.reduceSub, Nat.reduceMul, Int.reduceAdd, Int.reduceSub, Int.reduceMul, Int.reduceNeg, fU, c4]; subst hK) | refine zcA (hfs) rfl rfl rfl ?_ | (apply call_any_g (hfw) rfl; (case hg => simp (disch := first | omega | (simp only [dls]; omega)) only [std, reduceIte, reduceCtorEq, Int.reduceToNat, Nat.reduceAdd, Nat.reduceSub, Nat.reduceMul, Int.reduceAdd, Int.reduceSub, Int.reduceMul, Int.reduceNeg, fU, c4]); (case hcl => (simp only [evs, St.ev, constAV, evl]; (repeat (first | exact closeAVs_nil | (apply closeAVs_cons; (first | (refine close_own3 rfl (by decide)) | (refine close_ownO rfl (by decide) ?_; assumption) | rfl)))); done)); (case hu => rfl)) | (apply call_any_g (hof) rfl; (case hg => simp (disch := first | omega | (simp only [dls]; omega)) only [std, reduceIte, reduceCtorEq, Int.reduceToNat, Nat.reduceAdd, Nat.reduceSub, Nat.reduceMul, Int.reduceAdd, Int.reduceSub, Int.reduceMul, Int.reduceNeg, fU, c4]); (case hcl => (simp only [evs, St.ev, constAV, evl]; (repeat (first | exact closeAVs_nil | (apply closeAVs_cons; (first | (refine close_own3 rfl (by decide)) | (refine close_ownO rfl (by decide) ?_; assumption) | rfl)))); done)); (case hu => rfl)) | (apply call_any_g (hri) rfl; (case hg => simp (disch := first | omega | (simp only [dls]; omega)) only [std, reduceIte, reduceCtorEq, Int.reduceToNat, Nat.reduceAdd, Nat.reduceSub, Nat.reduceMul, Int.reduceAdd, Int.reduceSub, Int.reduceMul, Int.reduceNeg, fU, c4]); (case hcl => (simp only [evs, St.ev, constAV, evl]; (repeat (first | exact closeAVs_nil | (apply closeAVs_cons; (first | (refine close_own3 rfl (by decide)) | (refine close_ownO rfl (by decide) ?_; assumption) | rfl)))); done)); (case hu => rfl)) | refine zcA (haw) rfl rfl rfl ?_)
    exact ⟨_, rfl, rfl⟩
  have hb := kbest_C s ws 8 3 fw (by decide) (by decide) (by decide)
  rw [bestR_few c3 c1 c4 (by omega)] at hb
  have r1 := rt.roll
  obtain ⟨mr, hmr⟩ : ∃ mr, mr = more % 100 := ⟨_, rfl⟩
  have hmr2 : 0 ≤ mr ∧ mr < 100 := by omega
  have hrem : more.tmod 100 = mr := by rw [hmr]; exact Int.tmod_eq_emod_of_nonneg (by omega)
  generalize hD : dsOf s = D at *
  clear hD
  have hbig : ∀ (l : List Itm) (hl : l.length = (osl s.items).length) (hi : ∀ j, j < (osl s.items).length → (itAt ⟨s.roll + mr, some l⟩ j).width = (itAt s j).width ∧ (itAt s j).need ≤ (itAt ⟨s.roll + mr, some l⟩ j).need ∧ (itAt ⟨s.roll + mr, some l⟩ j).need ≤ 7),
      ∃ q T, PureC Try.prog 85 [.agg [.c (.val (.int .i64 (s.roll + mr))), .c (encSl 2 fItm (some l))], aV ws] (.ret (aCh q (some T) 0)) ∧ ∃ z, z ≤ 0 ∧ PureC Try.prog 46 [aR (rawQ (kvS s ws)), aR q] (.ret (aI z)) := fun l hl hi => by
    obtain ⟨a1, a2, a3⟩ := wider_ok (s := s) (t := ⟨s.roll + mr, some l⟩) (ws := ws) rt h7 h4 ⟨by show s.roll ≤ s.roll + mr; omega, by show s.roll + mr ≤ 512; omega⟩ hl hi
    have hb2 := kbest_C ⟨s.roll + mr, some l⟩ ws 8 3 fw (by decide) (by decide) (by decide)
    rw [bestR_few a1 a2 (by show _ = l.length; omega) (by show s.roll + mr ≤ 512; omega)] at hb2
    have hT2 := (few_total a1 a2).1
    have f1 := (fits_kv fw (by decide) rfl c3).mono (show totalS s * (3 + 1) + 1 ≤ 90000000 by omega)
    have f2 := (fits_kv fw (by decide) rfl a1).mono (show totalS ⟨s.roll + mr, some l⟩ * (3 + 1) + 1 ≤ 90000000 by omega)
    have hcm := rcompare_C (rawQ (kvS s ws)) (rawQ (kvS ⟨s.roll + mr, some l⟩ ws)) (fits_rawQ f1) (fits_rawQ f2)
    rw [rawQ_val, rawQ_val] at hcm
    refine ⟨_, _, hb2, _, ?_, hcm⟩
    exact Int.not_lt.1 (fun h => absurd a3 (Rat.not_le.2 ((cmpQ_pos _ _).1 h)))
  have hlen0 : (osl (some (osl s.items))).length = (osl s.items).length := rfl
  have hsI : ∀ (l : List Itm) (j : Nat) (a b : Int), (encB fItm l).set j [Cell.c (.val (.int .i64 a)), Cell.c (.val (.int .i64 b))] = encB fItm (l.set j ⟨a, b⟩) := fun l j a b => encB_set l j ⟨a, b⟩
  obtain ⟨l0, hl0⟩ : ∃ l0, l0 = osl s.items := ⟨_, rfl⟩
  have hsame := hbig (osl s.items) rfl (fun j hj => by
    have : itAt ⟨s.roll + mr, some (osl s.items)⟩ j = itAt s j := rfl
    rw [this]
    exact ⟨rfl, Int.le_refl _, h7 j hj⟩)
  obtain ⟨q2, T2, hb2, z2, hz2, hcm2⟩ := hsame
  by_cases k0 : 0 ≤ k
  case neg =>
    clear hbig
    generalize rawQ (kvS s ws) = q1 at *
    generalize takesV s ws = T1 at *
    refine pureC_of (rs := [(RV.tmp 8)]) Try.func20 (fun a w => Try.call20 a w) body20 cc20 (by kernel_rfl) ?_
    rw [Try.ntmps20]
    simp only [frs, Nat.reduceAdd, Nat.reduceSub]
    repeat (first | (with_reducible first | refine Way.imp ?_ | refine blk_o rfl ?_) | ((with_reducible refine WayR.imp (fun K hK => ?_)); simp (disch := first | omega | (simp only [dls]; omega)) only [std, reduceIte, reduceCtorEq, Int.reduceToNat, Nat.reduceAdd, Nat.reduceSub, Nat.reduceMul, Int.reduceAdd, Int.reduceSub, Int.reduceMul, Int.reduceNeg, fU, c4, hrem, fItm, hsI, fCh, fR, List.cons_append, List.nil_append, List.map_cons, List.map_nil]; subst hK) | refine zcA (hfs) rfl rfl rfl ?_ | (apply call_any_g (hfw) rfl; (case hg => simp (disch := first | omega | (simp only [dls]; omega)) only [std, reduceIte, reduceCtorEq, Int.reduceToNat, Nat.reduceAdd, Nat.reduceSub, Nat.reduceMul, Int.reduceAdd, Int.reduceSub, Int.reduceMul, Int.reduceNeg, fU, c4, hrem, fItm, hsI, fCh, fR, List.cons_append, List.nil_append, List.map_cons, List.map_nil]); (case hcl => (simp only [evs, St.ev, constAV, evl]; (repeat (first | exact closeAVs_nil | (apply closeAVs_cons; (first | (refine close_own3 rfl (by decide)) | (refine close_ownO rfl (by decide) ?_; assumption) | rfl)))); done)); (case hu => rfl)) | (apply call_any_g (hof) rfl; (case hg => simp (disch := first | omega | (simp only [dls]; omega)) only [std, reduceIte, reduceCtorEq, Int.reduceToNat, Nat.reduceAdd, Nat.reduceSub, Nat.reduceMul, Int.reduceAdd, Int.reduceSub, Int.reduceMul, Int.reduceNeg, fU, c4, hrem, fItm, hsI, fCh, fR, List.cons_append, List.nil_append, List.map_cons, List.map_nil]); (case hcl => (simp only [evs, St.ev, constAV, evl]; (repeat (first | exact closeAVs_nil | (apply closeAVs_cons; (first | (refine close_own3 rfl (by decide)) | (refine close_ownO rfl (by decide) ?_; assumption) | rfl)))); done)); (case hu => rfl)) | (apply call_any_g (hri) rfl; (case hg => simp (disch := first | omega | (simp only [dls]; omega)) only [std, reduceIte, reduceCtorEq, Int.reduceToNat, Nat.reduceAdd, Nat.reduceSub, Nat.reduceMul, Int.reduceAdd, Int.reduceSub, Int.reduceMul, Int.reduceNeg, fU, c4, hrem, fItm, hsI, fCh, fR, List.cons_append, List.nil_append, List.map_cons, List.map_nil]); (case hcl => (simp only [evs, St.ev, constAV, evl]; (repeat (first | exact closeAVs_nil | (apply closeAVs_cons; (first | (refine close_own3 rfl (by decide)) | (refine close_ownO rfl (by decide) ?_; assumption) | rfl)))); done)); (case hu => rfl)) | refine zcA (hb) rfl rfl rfl ?_ | (apply call_ret (hb2) rfl; (case hcl => (simp only [evs, St.ev, constAV, evl]; (repeat (first | exact closeAVs_nil | (apply closeAVs_cons; (first | (refine close_own3 rfl (by decide)) | (refine close_ownO rfl (by decide) ?_; assumption) | rfl | exact close_St rfl)))); done)); (case hf => exact flat_Ch ..); (case hu => (simp only [evs, St.ev, constAV, evl]; (repeat (first | exact used_nil | (apply used_cons; (first | (apply used_own3; rfl) | rfl | exact used_St rfl)))); done)); (case hh => ((simp only [fzl, Nat.reduceBEq, Nat.reduceAdd, Bool.false_eq_true, if_true, if_false, reduceIte]) <;> rfl))) | (apply call_any_g (hcm2) rfl; (case hg => simp (disch := first | omega | (simp only [dls]; omega)) only [std, reduceIte, reduceCtorEq, Int.reduceToNat, Nat.reduceAdd, Nat.reduceSub, Nat.reduceMul, Int.reduceAdd, Int.reduceSub, Int.reduceMul, Int.reduceNeg, fU, c4, hrem, fItm, hsI, fCh, fR, List.cons_append, List.nil_append, List.map_cons, List.map_nil]); (case hcl => (simp only [evs, St.ev, constAV, evl]; (repeat (first | exact closeAVs_nil | (apply closeAVs_cons; (first | (refine close_own3 rfl (by decide)) | (refine close_ownO rfl (by decide) ?_; assumption) | rfl)))); done)); (case hu => rfl)) | (apply call_any_g (haw) rfl; (case hg => simp (disch := first | omega | (simp only [dls]; omega)) only [std, reduceIte, reduceCtorEq, Int.reduceToNat, Nat.reduceAdd, Nat.reduceSub, Nat.reduceMul, Int.reduceAdd, Int.reduceSub, Int.reduceMul, Int.reduceNeg, fU, c4, hrem, fItm, hsI, fCh, fR, List.cons_append, List.nil_append, List.map_cons, List.map_nil]); (case hcl => (simp only [evs, St.ev, constAV, evl]; (repeat (first | exact closeAVs_nil | (apply closeAVs_cons; (first | (refine close_own3 rfl (by decide)) | (refine close_ownO rfl (by decide) ?_; assumption) | rfl)))); done)); (case hu => rfl)))
    exact ⟨_, rfl, rfl⟩
  obtain ⟨kk, hkk⟩ : ∃ kk : Nat, k = (kk : Int) := ⟨k.toNat, by omega⟩
  subst hkk
  by_cases k1 : kk < (osl s.items).length
  case neg =>
    clear hbig
    generalize rawQ (kvS s ws) = q1 at *
    generalize takesV s ws = T1 at *
    refine pureC_of (rs := [(RV.tmp 8)]) Try.func20 (fun a w => Try.call20 a w) body20 cc20 (by kernel_rfl) ?_
    rw [Try.ntmps20]
    simp only [frs, Nat.reduceAdd, Nat.reduceSub]
    repeat (first | (with_reducible first | refine Way.imp ?_ | refine blk_o rfl ?_) | ((with_reducible refine WayR.imp (fun K hK => ?_)); simp (disch := first | omega | (simp only [dls]; omega)) only [std, reduceIte, reduceCtorEq, Int.reduceToNat, Nat.reduceAdd, Nat.reduceSub, Nat.reduceMul, Int.reduceAdd, Int.reduceSub, Int.reduceMul, Int.reduceNeg, fU, c4, hrem, fItm, hsI, fCh, fR, List.cons_append, List.nil_append, List.map_cons, List.map_nil]; subst hK) | refine zcA (hfs) rfl rfl rfl ?_ | (apply call_any_g (hfw) rfl; (case hg => simp (disch := first | omega | (simp only [dls]; omega)) only [std, reduceIte, reduceCtorEq, Int.reduceToNat, Nat.reduceAdd, Nat.reduceSub, Nat.reduceMul, Int.reduceAdd, Int.reduceSub, Int.reduceMul, Int.reduceNeg, fU, c4, hrem, fItm, hsI, fCh, fR, List.cons_append, List.nil_append, List.map_cons, List.map_nil]); (case hcl => (simp only [evs, St.ev, constAV, evl]; (repeat (first | exact closeAVs_nil | (apply closeAVs_cons; (first | (refine close_own3 rfl (by decide)) | (refine close_ownO rfl (by decide) ?_; assumption) | rfl)))); done)); (case hu => rfl)) | (apply call_any_g (hof) rfl; (case hg => simp (disch := first | omega | (simp only [dls]; omega)) only [std, reduceIte, reduceCtorEq, Int.reduceToNat, Nat.reduceAdd, Nat.reduceSub, Nat.reduceMul, Int.reduceAdd, Int.reduceSub, Int.reduceMul, Int.reduceNeg, fU, c4, hrem, fItm, hsI, fCh, fR, List.cons_append, List.nil_append, List.map_cons, List.map_nil]); (case hcl => (simp only [evs, St.ev, constAV, evl]; (repeat (first | exact closeAVs_nil | (apply closeAVs_cons; (first | (refine close_own3 rfl (by decide)) | (refine close_ownO rfl (by decide) ?_; assumption) | rfl)))); done)); (case hu => rfl)) | (apply call_any_g (hri) rfl; (case hg => simp (disch := first | omega | (simp only [dls]; omega)) only [std, reduceIte, reduceCtorEq, Int.reduceToNat, Nat.reduceAdd, Nat.reduceSub, Nat.reduceMul, Int.reduceAdd, Int.reduceSub, Int.reduceMul, Int.reduceNeg, fU, c4, hrem, fItm, hsI, fCh, fR, List.cons_append, List.nil_append, List.map_cons, List.map_nil]); (case hcl => (simp only [evs, St.ev, constAV, evl]; (repeat (first | exact closeAVs_nil | (apply closeAVs_cons; (first | (refine close_own3 rfl (by decide)) | (refine close_ownO rfl (by decide) ?_; assumption) | rfl)))); done)); (case hu => rfl)) | refine zcA (hb) rfl rfl rfl ?_ | (apply call_ret (hb2) rfl; (case hcl => (simp only [evs, St.ev, constAV, evl]; (repeat (first | exact closeAVs_nil | (apply closeAVs_cons; (first | (refine close_own3 rfl (by decide)) | (refine close_ownO rfl (by decide) ?_; assumption) | rfl | exact close_St rfl)))); done)); (case hf => exact flat_Ch ..); (case hu => (simp only [evs, St.ev, constAV, evl]; (repeat (first | exact used_nil | (apply used_cons; (first | (apply used_own3; rfl) | rfl | exact used_St rfl)))); done)); (case hh => ((simp only [fzl, Nat.reduceBEq, Nat.reduceAdd, Bool.false_eq_true, if_true, if_false, reduceIte]) <;> rfl))) | (apply call_any_g (hcm2) rfl; (case hg => simp (disch := first | omega | (simp only [dls]; omega)) only [std, reduceIte, reduceCtorEq, Int.reduceToNat, Nat.reduceAdd, Nat.reduceSub, Nat.reduceMul, Int.reduceAdd, Int.reduceSub, Int.reduceMul, Int.reduceNeg, fU, c4, hrem, fItm, hsI, fCh, fR, List.cons_append, List.nil_append, List.map_cons, List.map_nil]); (case hcl => (simp only [evs, St.ev, constAV, evl]; (repeat (first | exact closeAVs_nil | (apply closeAVs_cons; (first | (refine close_own3 rfl (by decide)) | (refine close_ownO rfl (by decide) ?_; assumption) | rfl)))); done)); (case hu => rfl)) | (apply call_any_g (haw) rfl; (case hg => simp (disch := first | omega | (simp only [dls]; omega)) only [std, reduceIte, reduceCtorEq, Int.reduceToNat, Nat.reduceAdd, Nat.reduceSub, Nat.reduceMul, Int.reduceAdd, Int.reduceSub, Int.reduceMul, Int.reduceNeg, fU, c4, hrem, fItm, hsI, fCh, fR, List.cons_append, List.nil_append, List.map_cons, List.map_nil]); (case hcl => (simp only [evs, St.ev, constAV, evl]; (repeat (first | exact closeAVs_nil | (apply closeAVs_cons; (first | (refine close_own3 rfl (by decide)) | (refine close_ownO rfl (by decide) ?_; assumption) | rfl)))); done)); (case hu => rfl)))
    exact ⟨_, rfl, rfl⟩
  by_cases k2 : (osl s.items)[kk].need < 7
  · have hset := hbig ((osl s.items).set kk ⟨(osl s.items)[kk].width, (osl s.items)[kk].need + 1⟩) (by rw [List.length_set]) (fun j hj => by
      have e : itAt ⟨s.roll + mr, some ((osl s.items).set kk ⟨(osl s.items)[kk].width, (osl s.items)[kk].need + 1⟩)⟩ j = if kk = j then ⟨(osl s.items)[kk].width, (osl s.items)[kk].need + 1⟩ else itAt s j := by
        rw [itAt_in (by show j < ((osl s.items).set _ _).length; rw [List.length_set]; exact hj)]
        show ((osl s.items).set kk ⟨(osl s.items)[kk].width, (osl s.items)[kk].need + 1⟩)[j]'(by rw [List.length_set]; exact hj) = _
        rw [List.getElem_set, itAt_in hj]
      rw [e]
      by_cases ej : kk = j
      · subst ej
        rw [if_pos rfl, itAt_in hj]
        exact ⟨rfl, by show _ ≤ (osl s.items)[kk].need + 1; omega, by show (osl s.items)[kk].need + 1 ≤ 7; omega⟩
      · rw [if_neg ej]
        exact ⟨rfl, Int.le_refl _, h7 j hj⟩)
    obtain ⟨q3, T3, hb3, z3, hz3, hcm3⟩ := hset
    have hn0 := (rt.item kk k1).2
    rw [itAt_in k1] at hn0
    clear hbig
    generalize rawQ (kvS s ws) = q1 at *
    generalize takesV s ws = T1 at *
    refine pureC_of (rs := [(RV.tmp 8)]) Try.func20 (fun a w => Try.call20 a w) body20 cc20 (by kernel_rfl) ?_
    rw [Try.ntmps20]
    simp only [frs, Nat.reduceAdd, Nat.reduceSub]
    repeat (first | (with_reducible first | refine Way.imp ?_ | refine blk_o rfl ?_) | ((with_reducible refine WayR.imp (fun K hK => ?_)); simp (disch := first | omega | (simp only [dls]; omega)) only [std, reduceIte, reduceCtorEq, Int.reduceToNat, Nat.reduceAdd, Nat.reduceSub, Nat.reduceMul, Int.reduceAdd, Int.reduceSub, Int.reduceMul, Int.reduceNeg, fU, c4, hrem, fItm, hsI, fCh, fR, List.cons_append, List.nil_append, List.map_cons, List.map_nil]; subst hK) | refine zcA (hfs) rfl rfl rfl ?_ | (apply call_any_g (hfw) rfl; (case hg => simp (disch := first | omega | (simp only [dls]; omega)) only [std, reduceIte, reduceCtorEq, Int.reduceToNat, Nat.reduceAdd, Nat.reduceSub, Nat.reduceMul, Int.reduceAdd, Int.reduceSub, Int.reduceMul, Int.reduceNeg, fU, c4, hrem, fItm, hsI, fCh, fR, List.cons_append, List.nil_append, List.map_cons, List.map_nil]); (case hcl => (simp only [evs, St.ev, constAV, evl]; (repeat (first | exact closeAVs_nil | (apply closeAVs_cons; (first | (refine close_own3 rfl (by decide)) | (refine close_ownO rfl (by decide) ?_; assumption) | rfl)))); done)); (case hu => rfl)) | (apply call_any_g (hof) rfl; (case hg => simp (disch := first | omega | (simp only [dls]; omega)) only [std, reduceIte, reduceCtorEq, Int.reduceToNat, Nat.reduceAdd, Nat.reduceSub, Nat.reduceMul, Int.reduceAdd, Int.reduceSub, Int.reduceMul, Int.reduceNeg, fU, c4, hrem, fItm, hsI, fCh, fR, List.cons_append, List.nil_append, List.map_cons, List.map_nil]); (case hcl => (simp only [evs, St.ev, constAV, evl]; (repeat (first | exact closeAVs_nil | (apply closeAVs_cons; (first | (refine close_own3 rfl (by decide)) | (refine close_ownO rfl (by decide) ?_; assumption) | rfl)))); done)); (case hu => rfl)) | (apply call_any_g (hri) rfl; (case hg => simp (disch := first | omega | (simp only [dls]; omega)) only [std, reduceIte, reduceCtorEq, Int.reduceToNat, Nat.reduceAdd, Nat.reduceSub, Nat.reduceMul, Int.reduceAdd, Int.reduceSub, Int.reduceMul, Int.reduceNeg, fU, c4, hrem, fItm, hsI, fCh, fR, List.cons_append, List.nil_append, List.map_cons, List.map_nil]); (case hcl => (simp only [evs, St.ev, constAV, evl]; (repeat (first | exact closeAVs_nil | (apply closeAVs_cons; (first | (refine close_own3 rfl (by decide)) | (refine close_ownO rfl (by decide) ?_; assumption) | rfl)))); done)); (case hu => rfl)) | refine zcA (hb) rfl rfl rfl ?_ | (apply call_ret (hb3) rfl; (case hcl => (simp only [evs, St.ev, constAV, evl]; (repeat (first | exact closeAVs_nil | (apply closeAVs_cons; (first | (refine close_own3 rfl (by decide)) | (refine close_ownO rfl (by decide) ?_; assumption) | rfl | exact close_St rfl)))); done)); (case hf => exact flat_Ch ..); (case hu => (simp only [evs, St.ev, constAV, evl]; (repeat (first | exact used_nil | (apply used_cons; (first | (apply used_own3; rfl) | rfl | exact used_St rfl)))); done)); (case hh => ((simp only [fzl, Nat.reduceBEq, Nat.reduceAdd, Bool.false_eq_true, if_true, if_false, reduceIte]) <;> rfl))) | (apply call_any_g (hcm3) rfl; (case hg => simp (disch := first | omega | (simp only [dls]; omega)) only [std, reduceIte, reduceCtorEq, Int.reduceToNat, Nat.reduceAdd, Nat.reduceSub, Nat.reduceMul, Int.reduceAdd, Int.reduceSub, Int.reduceMul, Int.reduceNeg, fU, c4, hrem, fItm, hsI, fCh, fR, List.cons_append, List.nil_append, List.map_cons, List.map_nil]); (case hcl => (simp only [evs, St.ev, constAV, evl]; (repeat (first | exact closeAVs_nil | (apply closeAVs_cons; (first | (refine close_own3 rfl (by decide)) | (refine close_ownO rfl (by decide) ?_; assumption) | rfl)))); done)); (case hu => rfl)) | (apply call_any_g (haw) rfl; (case hg => simp (disch := first | omega | (simp only [dls]; omega)) only [std, reduceIte, reduceCtorEq, Int.reduceToNat, Nat.reduceAdd, Nat.reduceSub, Nat.reduceMul, Int.reduceAdd, Int.reduceSub, Int.reduceMul, Int.reduceNeg, fU, c4, hrem, fItm, hsI, fCh, fR, List.cons_append, List.nil_append, List.map_cons, List.map_nil]); (case hcl => (simp only [evs, St.ev, constAV, evl]; (repeat (first | exact closeAVs_nil | (apply closeAVs_cons; (first | (refine close_own3 rfl (by decide)) | (refine close_ownO rfl (by decide) ?_; assumption) | rfl)))); done)); (case hu => rfl)))
    exact ⟨_, rfl, rfl⟩
  · clear hbig
    generalize rawQ (kvS s ws) = q1 at *
    generalize takesV s ws = T1 at *
    refine pureC_of (rs := [(RV.tmp 8)]) Try.func20 (fun a w => Try.call20 a w) body20 cc20 (by kernel_rfl) ?_
    rw [Try.ntmps20]
    simp only [frs, Nat.reduceAdd, Nat.reduceSub]
    repeat (first | (with_reducible first | refine Way.imp ?_ | refine blk_o rfl ?_) | ((with_reducible refine WayR.imp (fun K hK => ?_)); simp (disch := first | omega | (simp only [dls]; omega)) only [std, reduceIte, reduceCtorEq, Int.reduceToNat, Nat.reduceAdd, Nat.reduceSub, Nat.reduceMul, Int.reduceAdd, Int.reduceSub, Int.reduceMul, Int.reduceNeg, fU, c4, hrem, fItm, hsI, fCh, fR, List.cons_append, List.nil_append, List.map_cons, List.map_nil]; subst hK) | refine zcA (hfs) rfl rfl rfl ?_ | (apply call_any_g (hfw) rfl; (case hg => simp (disch := first | omega | (simp only [dls]; omega)) only [std, reduceIte, reduceCtorEq, Int.reduceToNat, Nat.reduceAdd, Nat.reduceSub, Nat.reduceMul, Int.reduceAdd, Int.reduceSub, Int.reduceMul, Int.reduceNeg, fU, c4, hrem, fItm, hsI, fCh, fR, List.cons_append, List.nil_append, List.map_cons, List.map_nil]); (case hcl => (simp only [evs, St.ev, constAV, evl]; (repeat (first | exact closeAVs_nil | (apply closeAVs_cons; (first | (refine close_own3 rfl (by decide)) | (refine close_ownO rfl (by decide) ?_; assumption) | rfl)))); done)); (case hu => rfl)) | (apply call_any_g (hof) rfl; (case hg => simp (disch := first | omega | (simp only [dls]; omega)) only [std, reduceIte, reduceCtorEq, Int.reduceToNat, Nat.reduceAdd, Nat.reduceSub, Nat.reduceMul, Int.reduceAdd, Int.reduceSub, Int.reduceMul, Int.reduceNeg, fU, c4, hrem, fItm, hsI, fCh, fR, List.cons_append, List.nil_append, List.map_cons, List.map_nil]); (case hcl => (simp only [evs, St.ev, constAV, evl]; (repeat (first | exact closeAVs_nil | (apply closeAVs_cons; (first | (refine close_own3 rfl (by decide)) | (refine close_ownO rfl (by decide) ?_; assumption) | rfl)))); done)); (case hu => rfl)) | (apply call_any_g (hri) rfl; (case hg => simp (disch := first | omega | (simp only [dls]; omega)) only [std, reduceIte, reduceCtorEq, Int.reduceToNat, Nat.reduceAdd, Nat.reduceSub, Nat.reduceMul, Int.reduceAdd, Int.reduceSub, Int.reduceMul, Int.reduceNeg, fU, c4, hrem, fItm, hsI, fCh, fR, List.cons_append, List.nil_append, List.map_cons, List.map_nil]); (case hcl => (simp only [evs, St.ev, constAV, evl]; (repeat (first | exact closeAVs_nil | (apply closeAVs_cons; (first | (refine close_own3 rfl (by decide)) | (refine close_ownO rfl (by decide) ?_; assumption) | rfl)))); done)); (case hu => rfl)) | refine zcA (hb) rfl rfl rfl ?_ | (apply call_ret (hb2) rfl; (case hcl => (simp only [evs, St.ev, constAV, evl]; (repeat (first | exact closeAVs_nil | (apply closeAVs_cons; (first | (refine close_own3 rfl (by decide)) | (refine close_ownO rfl (by decide) ?_; assumption) | rfl | exact close_St rfl)))); done)); (case hf => exact flat_Ch ..); (case hu => (simp only [evs, St.ev, constAV, evl]; (repeat (first | exact used_nil | (apply used_cons; (first | (apply used_own3; rfl) | rfl | exact used_St rfl)))); done)); (case hh => ((simp only [fzl, Nat.reduceBEq, Nat.reduceAdd, Bool.false_eq_true, if_true, if_false, reduceIte]) <;> rfl))) | (apply call_any_g (hcm2) rfl; (case hg => simp (disch := first | omega | (simp only [dls]; omega)) only [std, reduceIte, reduceCtorEq, Int.reduceToNat, Nat.reduceAdd, Nat.reduceSub, Nat.reduceMul, Int.reduceAdd, Int.reduceSub, Int.reduceMul, Int.reduceNeg, fU, c4, hrem, fItm, hsI, fCh, fR, List.cons_append, List.nil_append, List.map_cons, List.map_nil]); (case hcl => (simp only [evs, St.ev, constAV, evl]; (repeat (first | exact closeAVs_nil | (apply closeAVs_cons; (first | (refine close_own3 rfl (by decide)) | (refine close_ownO rfl (by decide) ?_; assumption) | rfl)))); done)); (case hu => rfl)) | (apply call_any_g (haw) rfl; (case hg => simp (disch := first | omega | (simp only [dls]; omega)) only [std, reduceIte, reduceCtorEq, Int.reduceToNat, Nat.reduceAdd, Nat.reduceSub, Nat.reduceMul, Int.reduceAdd, Int.reduceSub, Int.reduceMul, Int.reduceNeg, fU, c4, hrem, fItm, hsI, fCh, fR, List.cons_append, List.nil_append, List.map_cons, List.map_nil]); (case hcl => (simp only [evs, St.ev, constAV, evl]; (repeat (first | exact closeAVs_nil | (apply closeAVs_cons; (first | (refine close_own3 rfl (by decide)) | (refine close_ownO rfl (by decide) ?_; assumption) | rfl)))); done)); (case hu => rfl)))
    exact ⟨_, rfl, rfl⟩

end Go.Proofs.Ytdhkdnmefeeclaa
