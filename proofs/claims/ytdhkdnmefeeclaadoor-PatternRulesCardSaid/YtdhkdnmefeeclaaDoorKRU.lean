/- The abstract memory: a call whose result may hold what it was handed, or not. -/
import Derived.Test.YtdhkdnmefeeclaaDoorA6
import Derived.Test.YtdhkdnmefeeclaaDoorUD
set_option linter.unusedSimpArgs false
set_option linter.unusedVariables false
set_option linter.unnecessarySimpa false
set_option linter.unusedSimpArgs false
set_option linter.unusedVariables false
namespace Go.Am
open Go.RowKit

variable {GL : Glb}
variable {P : Program} {opn : List FuncId} {K : St → Prop}

def setLive : List Blk → Nat → Bool → List Blk
  | [], _, _ => []
  | k :: l, 0, b => { k with live := b } :: l
  | k :: l, n + 1, b => k :: setLive l n b
theorem setLive_zero {v e : Nat} {ty : TypeId} {els : List (List Cell)} {lv nn b : Bool} {l : List Blk} : setLive (⟨v, ty, e, els, lv, nn⟩ :: l) 0 b = ⟨v, ty, e, els, b, nn⟩ :: l := rfl
theorem setLive_succ {k : Blk} {n : Nat} {b : Bool} {l : List Blk} : setLive (k :: l) (n + 1) b = k :: setLive l n b := rfl

theorem call_ret_b {t : List AV} {h : List Blk} {dst : Option Tmp} {f : FuncId} {args : List Operand} {az cas : List AV} {av : AV} {os : List CO} {ids : List Nat} (i : Nat) (hp : PureC P f cas (.ret av)) (ha : callArgs ⟨t, h⟩ (.func f) args = some (f, az)) (hcl : az.mapM (closeAV h 3) = some cas)
    (hu : (az.map (usedAV h 3)).flatten = ids) (h1 : freeze ids h = setLive h i false) (h2 : h = setLive h i true) (hk : ∀ b : Bool, evalOps P opn os ⟨putT t dst av, setLive h i b⟩ K) :
    callGo P opn ⟨dst, none, .callf (.func f) args⟩ os ⟨t, h⟩ K := by
  cases hf : flatAV av with
  | true => exact call_flat hp ha hcl hf (by rw [h2]; simpa using hk true)
  | false => exact call_ret hp ha hcl hf hu h1 (hk false)

end Go.Am
set_option linter.unusedSimpArgs false
set_option linter.unusedVariables false
set_option maxRecDepth 100000
set_option maxHeartbeats 4000000
namespace Go.Proofs.YtdhkdnmefeeclaaDoor
open Go Go.Am Go.Proofs Go.RowKit Go.Off

theorem range_all {α : Type} (d : α) (f : α → Bool) (l : List α) : (List.range l.length).all (fun i => f (l.getD i d)) = l.all f := by
  rw [Bool.eq_iff_iff, List.all_eq_true, List.all_eq_true]
  constructor
  · intro h x hx
    obtain ⟨i, hi, rfl⟩ := List.getElem_of_mem hx
    have := h i (List.mem_range.2 hi)
    rwa [List.getD_eq_getElem?_getD, List.getElem?_eq_getElem hi] at this
  · intro h i hi
    have hi2 := List.mem_range.1 hi
    rw [List.getD_eq_getElem?_getD, List.getElem?_eq_getElem hi2]
    exact h _ (List.getElem_mem hi2)
theorem rightRl_all (l : RL) : rightRl l = (decide ((osl l).length ≤ 200) && (osl l).all (fun r => !badR r)) := by
  unfold rightRl
  rw [← range_all ⟨0, 0, false⟩ (fun r => !badR r) (osl l)]
  unfold anyI rlBad rlAt
  rw [List.not_any_eq_all_not]
theorem keepsB_all (l : RL) (s : Nat) : keepsB l (s : Int) = (rightRl l && (osl l).all (okR s)) := by
  unfold keepsB
  rw [decide_eq_true (by omega : (0 : Int) ≤ (s : Int)), Bool.true_and, Int.toNat_natCast, ← range_all ⟨0, 0, false⟩ (okR s) (osl l)]
  rfl

section
variable {rs : List Rul} {m : Rul}
def flipR (m : Rul) : Rul := ⟨m.a, m.b, !m.tog⟩
theorem right_parts (h : rightRl (some (m :: rs)) = true) : rs.length ≤ 199 ∧ rs.all (fun r => !badR r) = true ∧ badR m = false := by
  rw [rightRl_all] at h
  simp only [osl_some, List.length_cons, List.all_cons, Bool.and_eq_true, decide_eq_true_eq, Bool.not_eq_true'] at h
  have h1 := h.1
  have h2 : rs.length + 1 ≤ 200 := of_decide_eq_true h1
  exact ⟨by omega, h.2.2, h.2.1⟩
theorem right_more (r : RL) (hr : osl r = rs) (h : rightRl (some (m :: rs)) = true) : rightRl r = true ∧ rightRl (some (rs ++ [m])) = true ∧ rightRl (some [m]) = true ∧ rightRl (some [m, flipR m]) = true := by
  obtain ⟨h1, h2, h3⟩ := right_parts h
  have h4 : badR (flipR m) = false := h3
  refine ⟨?_, ?_, ?_, ?_⟩
  · rw [rightRl_all, hr, h2, decide_eq_true (by omega)]; rfl
  · rw [rightRl_all, osl_some, List.all_append, h2, List.length_append, decide_eq_true (by rw [List.length_singleton]; omega)]
    simp [h3]
  · rw [rightRl_all, osl_some]; simp [h3]
  · rw [rightRl_all, osl_some]; simp [h3, h4]
theorem isPat_more (roll : Int) (l : WI) (r : RL) (hr : osl r = rs) (h : rightRl (some (m :: rs)) = true) (s : Nat) : isPat roll l (some (rs ++ [m])) s = (isPat roll l r s && keepsB (some [m]) s) := by
  obtain ⟨h1, h2, h3, _⟩ := right_more r hr h
  unfold isPat
  rw [keepsB_all, keepsB_all, keepsB_all, h1, h2, h3, hr, osl_some, osl_some, List.all_append]
  generalize rs.all (okR s) = x
  generalize ([m] : List Rul).all (okR s) = y
  generalize fitsB roll l s = z
  generalize decide (0 < s) = w
  cases x <;> cases y <;> cases z <;> cases w <;> rfl
def keptL (m : Rul) (L : List Nat) : List Nat := L.filter (fun s => keepsB (some [m]) s)
theorem keptL_snoc (m : Rul) (L : List Nat) (s : Nat) : keptL m (L ++ [s]) = if keepsB (some [m]) s then keptL m L ++ [s] else keptL m L := by
  unfold keptL
  rw [List.filter_append]
  cases h : keepsB (some [m]) s <;> simp [h]
theorem pats_more (roll : Int) (l : WI) (r : RL) (hr : osl r = rs) (h : rightRl (some (m :: rs)) = true) : patsL roll l (some (rs ++ [m])) = keptL m (patsL roll l r) := by
  unfold patsL
  split
  · unfold patL patTo keptL
    rw [List.filter_filter]
    apply List.filter_congr
    intro s _
    rw [isPat_more roll l r hr h, Bool.and_comm]
  · rfl
theorem pats_flip (roll : Int) (l : WI) (h : rightRl (some (m :: rs)) = true) : ∀ s ∈ patsL roll l (some [m, flipR m]), bitN s m.a.toNat = false ∧ bitN s m.b.toNat = false := fun s hs => by
  obtain ⟨_, _, _, h4⟩ := right_more (some rs) rfl h
  unfold patsL at hs
  split at hs
  · unfold patL patTo at hs
    have hp := (List.mem_filter.1 hs).2
    unfold isPat at hp
    rw [keepsB_all, h4, osl_some] at hp
    simp only [Bool.and_eq_true, List.all_cons, List.all_nil, Bool.true_and, Bool.and_true] at hp
    obtain ⟨_, ⟨p1, p2⟩, _⟩ := hp
    unfold okR flipR at p2
    unfold okR at p1
    dsimp only at p2
    generalize bitN s m.a.toNat = x at *
    generalize bitN s m.b.toNat = y at *
    generalize m.tog = t at *
    revert p1 p2
    cases x <;> cases y <;> cases t <;> decide
  · cases hs
theorem rule_in (h : rightRl (some (m :: rs)) = true) : (0 ≤ m.a ∧ m.a < 12) ∧ (0 ≤ m.b ∧ m.b < 12) := by
  obtain ⟨_, _, h3⟩ := right_parts h
  unfold badR in12 at h3
  simp only [Bool.or_eq_false_iff, Bool.not_eq_false', Bool.and_eq_true, decide_eq_true_eq] at h3
  exact ⟨h3.1, h3.2.1⟩
end

end Go.Proofs.YtdhkdnmefeeclaaDoor
set_option linter.unusedSimpArgs false
set_option linter.unusedVariables false
set_option maxRecDepth 100000
set_option maxHeartbeats 4000000
namespace Go.Proofs.YtdhkdnmefeeclaaDoor
open Go Go.Am Go.Proofs Go.RowKit Go.Off

theorem catR1 (a b : Int) (t : Bool) (l : List Rul) : [Cell.c (.val (.int .i64 a)), Cell.c (.val (.int .i64 b)), Cell.c (.val (.bool t))] :: encB fRl l = encB fRl (⟨a, b, t⟩ :: l) := rfl
theorem catR2 (a b : Int) (t : Bool) (l : List Rul) : encB fRl l ++ [[Cell.c (.val (.int .i64 a)), Cell.c (.val (.int .i64 b)), Cell.c (.val (.bool t))]] = encB fRl (l ++ [⟨a, b, t⟩]) := by rw [← encB_append]; rfl

abbrev c9_k1 : CC := (.seq (.reg [⟨(some 109), none, (.callf (.func 29) [])⟩, ⟨(some 8), none, (.mv (.tmp 109))⟩]) .ret)
abbrev c9_b1 : CC := (.seq (.reg [⟨(some 97), none, (.bin .lss (.tmp 96) (.tmp 95))⟩]) (.seq (.cond (.tmp 97) .skip (.exit 4)) (.seq (.block 5 (.seq (.reg [⟨(some 98), none, (.mv (.tmp 96))⟩, ⟨(some 16), none, (.mv (.tmp 98))⟩]) (.seq (.reg [⟨(some 99), none, (.mv (.tmp 12))⟩, ⟨(some 100), none, (.mv (.tmp 16))⟩, ⟨(some 101), none, (.iaddr 1 none (.tmp 99) (.tmp 100))⟩, ⟨(some 102), none, (.load 1 false (.tmp 101))⟩, ⟨(some 103), none, (.mv (.tmp 9))⟩, ⟨(some 104), none, (.mv (.tmp 16))⟩, ⟨(some 105), none, (.iaddr 1 none (.tmp 103) (.tmp 104))⟩, ⟨(some 106), none, (.load 1 false (.tmp 105))⟩, ⟨(some 107), none, (.bin .neq (.tmp 102) (.tmp 106))⟩]) (.cond (.tmp 107) (.seq (.reg [⟨(some 8), none, (.mv (.const (.bool false)))⟩]) .ret) .skip)))) (.reg [⟨(some 108), none, (.bin .add (.tmp 96) (.const (.int .i64 (1))))⟩, ⟨(some 96), none, (.mv (.tmp 108))⟩]))))
abbrev c9_k2 : CC := (.seq (.seq (.reg [⟨(some 89), none, (.mv (.tmp 12))⟩, ⟨(some 90), none, (.len false (.tmp 89))⟩, ⟨(some 91), none, (.mv (.tmp 9))⟩, ⟨(some 92), none, (.len false (.tmp 91))⟩, ⟨(some 93), none, (.bin .neq (.tmp 90) (.tmp 92))⟩]) (.cond (.tmp 93) (.seq (.reg [⟨(some 8), none, (.mv (.const (.bool false)))⟩]) .ret) .skip)) (.seq (.seq (.reg [⟨(some 94), none, (.mv (.tmp 12))⟩, ⟨(some 95), none, (.len false (.tmp 94))⟩, ⟨(some 96), none, (.mv (.const (.int .i64 (0))))⟩]) (.block 4 (.loop c9_b1))) c9_k1))
abbrev c9_b2 : CC := (.seq (.reg [⟨(some 75), none, (.bin .lss (.tmp 74) (.tmp 73))⟩]) (.seq (.cond (.tmp 75) .skip (.exit 2)) (.seq (.block 3 (.seq (.reg [⟨(some 76), none, (.iaddr 1 none (.tmp 72) (.tmp 74))⟩, ⟨(some 77), none, (.load 1 false (.tmp 76))⟩, ⟨(some 15), none, (.mv (.tmp 77))⟩]) (.seq (.reg [⟨(some 78), none, (.mv (.tmp 15))⟩, ⟨(some 79), none, (.faddr 0 (.tmp 7))⟩, ⟨(some 80), none, (.load 1 false (.tmp 79))⟩, ⟨(some 81), none, (.callf (.func 37) [(.tmp 78), (.tmp 80)])⟩, ⟨(some 82), none, (.mv (.tmp 81))⟩, ⟨(some 83), (some (82, false)), (.mv (.tmp 15))⟩, ⟨(some 84), (some (82, false)), (.faddr 1 (.tmp 7))⟩, ⟨(some 85), (some (82, false)), (.load 1 false (.tmp 84))⟩, ⟨(some 86), (some (82, false)), (.callf (.func 37) [(.tmp 83), (.tmp 85)])⟩, ⟨(some 87), none, (.pick (.tmp 82) (.const (.bool true)) (.tmp 86))⟩]) (.cond (.tmp 87) (.seq (.reg [⟨(some 8), none, (.mv (.const (.bool false)))⟩]) .ret) .skip)))) (.reg [⟨(some 88), none, (.bin .add (.tmp 74) (.const (.int .i64 (1))))⟩, ⟨(some 74), none, (.mv (.tmp 88))⟩]))))
abbrev c9_k3 : CC := (.seq (.regn false [⟨(some 53), none, (.mv (.tmp 0))⟩, ⟨(some 54), none, (.mv (.tmp 1))⟩, ⟨(some 55), none, (.mkrow 63 3 [])⟩, ⟨(some 56), none, (.mv (.tmp 2))⟩, ⟨(some 57), none, (.append 63 3 24 (.tmp 55) (.tmp 56))⟩, ⟨(some 58), none, (.load 3 true (.tmp 7))⟩, ⟨(some 59), none, (.mkrowc 3 [(.tmp 58)])⟩, ⟨(some 60), none, (.append 63 3 24 (.tmp 57) (.tmp 59))⟩, ⟨(some 61), none, (.callf (.func 35) [(.tmp 53), (.tmp 54), (.tmp 60)])⟩, ⟨(some 12), none, (.mv (.tmp 61))⟩]) (.seq (.reg [⟨(some 62), none, (.load 3 true (.tmp 7))⟩, ⟨(some 13), none, (.new 63 [(.int .i64 (0)), (.int .i64 (0)), (.bool false)])⟩, ⟨none, none, (.store 3 (.tmp 13) (.tmp 62))⟩]) (.seq (.reg [⟨(some 63), none, (.faddr 2 (.tmp 7))⟩, ⟨(some 64), none, (.load 1 false (.tmp 63))⟩, ⟨(some 65), none, (.un .not (.tmp 64))⟩, ⟨(some 66), none, (.faddr 2 (.tmp 13))⟩, ⟨none, none, (.store 1 (.tmp 66) (.tmp 65))⟩]) (.seq (.seq (.reg [⟨(some 67), none, (.mv (.tmp 0))⟩, ⟨(some 68), none, (.mv (.tmp 1))⟩, ⟨(some 69), none, (.load 3 true (.tmp 7))⟩, ⟨(some 70), none, (.load 3 true (.tmp 13))⟩, ⟨(some 71), none, (.mkrow 63 3 [(.tmp 69), (.tmp 70)])⟩, ⟨(some 72), none, (.callf (.func 35) [(.tmp 67), (.tmp 68), (.tmp 71)])⟩, ⟨(some 73), none, (.len false (.tmp 72))⟩, ⟨(some 74), none, (.mv (.const (.int .i64 (0))))⟩]) (.block 2 (.loop c9_b2))) c9_k2))))
abbrev c9_b3 : CC := (.seq (.reg [⟨(some 40), none, (.bin .lss (.tmp 39) (.tmp 38))⟩]) (.seq (.cond (.tmp 40) .skip (.exit 0)) (.seq (.block 1 (.seq (.reg [⟨(some 41), none, (.iaddr 1 none (.tmp 37) (.tmp 39))⟩, ⟨(some 42), none, (.load 1 false (.tmp 41))⟩, ⟨(some 11), none, (.mv (.tmp 42))⟩]) (.seq (.reg [⟨(some 43), none, (.load 3 true (.tmp 7))⟩, ⟨(some 44), none, (.mkrow 63 3 [(.tmp 43)])⟩, ⟨(some 45), none, (.callf (.func 32) [(.tmp 44)])⟩, ⟨(some 46), none, (.mv (.tmp 11))⟩, ⟨(some 47), none, (.callf (.func 34) [(.tmp 45), (.tmp 46)])⟩]) (.cond (.tmp 47) (.reg [⟨(some 48), none, (.mv (.tmp 9))⟩, ⟨(some 49), none, (.mv (.tmp 11))⟩, ⟨(some 50), none, (.mkrow 3 1 [(.tmp 49)])⟩, ⟨(some 51), none, (.append 3 1 8 (.tmp 48) (.tmp 50))⟩, ⟨(some 9), none, (.mv (.tmp 51))⟩]) .skip)))) (.reg [⟨(some 52), none, (.bin .add (.tmp 39) (.const (.int .i64 (1))))⟩, ⟨(some 39), none, (.mv (.tmp 52))⟩]))))
abbrev c9 : CC := (.seq (.reg [⟨(some 7), none, (.box 63 (.tmp 3))⟩, ⟨(some 8), none, (.mv (.const (.bool false)))⟩]) (.seq (.seq (.reg [⟨(some 17), none, (.mv (.tmp 1))⟩, ⟨(some 18), none, (.len false (.tmp 17))⟩, ⟨(some 19), none, (.bin .gtr (.tmp 18) (.const (.int .i64 (8))))⟩, ⟨(some 20), none, (.mv (.tmp 19))⟩, ⟨(some 21), (some (20, false)), (.mv (.tmp 2))⟩, ⟨(some 22), (some (20, false)), (.len false (.tmp 21))⟩, ⟨(some 23), (some (20, false)), (.bin .gtr (.tmp 22) (.const (.int .i64 (19))))⟩, ⟨(some 24), none, (.pick (.tmp 20) (.const (.bool true)) (.tmp 23))⟩, ⟨(some 25), none, (.mv (.tmp 24))⟩, ⟨(some 26), (some (25, false)), (.load 3 true (.tmp 7))⟩, ⟨(some 27), (some (25, false)), (.mkrow 63 3 [(.tmp 26)])⟩, ⟨(some 28), (some (25, false)), (.mv (.tmp 2))⟩, ⟨(some 29), (some (25, false)), (.append 63 3 24 (.tmp 27) (.tmp 28))⟩, ⟨(some 30), (some (25, false)), (.callf (.func 30) [(.tmp 29)])⟩, ⟨(some 31), (some (25, false)), (.un .not (.tmp 30))⟩, ⟨(some 32), none, (.pick (.tmp 25) (.const (.bool true)) (.tmp 31))⟩]) (.cond (.tmp 32) (.seq (.reg [⟨(some 33), none, (.callf (.func 29) [])⟩, ⟨(some 8), none, (.mv (.tmp 33))⟩]) .ret) .skip)) (.seq (.reg [⟨(some 9), none, (.mv (.const (.slice none 0 0)))⟩]) (.seq (.seq (.reg [⟨(some 34), none, (.mv (.tmp 0))⟩, ⟨(some 35), none, (.mv (.tmp 1))⟩, ⟨(some 36), none, (.mv (.tmp 2))⟩, ⟨(some 37), none, (.callf (.func 35) [(.tmp 34), (.tmp 35), (.tmp 36)])⟩, ⟨(some 38), none, (.len false (.tmp 37))⟩, ⟨(some 39), none, (.mv (.const (.int .i64 (0))))⟩]) (.block 0 (.loop c9_b3))) c9_k3))))
theorem cc9 : ccode Tryd.prog [] (Tryd.f9.body.getD .skip) = some c9 := by kernel_rfl
theorem body9 : Tryd.f9.body = some (Tryd.f9.body.getD .skip) := rfl

theorem patternRules_C (roll : Int) (l : WI) (r : RL) (m : Rul) : PureC Tryd.prog 9 [aI roll, aWs l, aRl r, aRu m] (.ret (aB true)) := by
  have haw := awake18_C
  by_cases h8 : (osl l).length ≤ 8
  rotate_left
  · refine pureC_of (rs := [(RV.tmp 8)]) Tryd.func9 (fun a w => Tryd.call9 a w) body9 cc9 (by kernel_rfl) ?_
    rw [Tryd.ntmps9]
    simp only [frs, Nat.reduceAdd, Nat.reduceSub]
    repeat (first | (with_reducible first | refine Way.imp ?_ | refine blk_o rfl ?_) | ((with_reducible refine WayR.imp (fun K hK => ?_)); simp (disch := first | omega | (simp only [dls]; omega)) only [std, reduceIte, reduceCtorEq, Int.reduceToNat, Nat.reduceAdd, Nat.reduceSub, Nat.reduceMul, Int.reduceAdd, Int.reduceSub, Int.reduceMul, Int.reduceNeg, fU, h8, show (8 < (osl l).length) from by omega]; subst hK) | refine zcA (haw) rfl rfl rfl ?_)
    exact ⟨_, rfl, rfl⟩
  by_cases h19 : (osl r).length ≤ 19
  rotate_left
  · refine pureC_of (rs := [(RV.tmp 8)]) Tryd.func9 (fun a w => Tryd.call9 a w) body9 cc9 (by kernel_rfl) ?_
    rw [Tryd.ntmps9]
    simp only [frs, Nat.reduceAdd, Nat.reduceSub]
    repeat (first | (with_reducible first | refine Way.imp ?_ | refine blk_o rfl ?_) | ((with_reducible refine WayR.imp (fun K hK => ?_)); simp (disch := first | omega | (simp only [dls]; omega)) only [std, reduceIte, reduceCtorEq, Int.reduceToNat, Nat.reduceAdd, Nat.reduceSub, Nat.reduceMul, Int.reduceAdd, Int.reduceSub, Int.reduceMul, Int.reduceNeg, fU, h8, h19, show ¬ (8 < (osl l).length) from by omega, show (19 < (osl r).length) from by omega]; subst hK) | refine zcA (haw) rfl rfl rfl ?_)
    exact ⟨_, rfl, rfl⟩
  have hri := pright_C (some (m :: osl r))
  cases c1 : rightRl (some (m :: osl r)) with
  | false =>
    rw [c1] at hri
    refine pureC_of (rs := [(RV.tmp 8)]) Tryd.func9 (fun a w => Tryd.call9 a w) body9 cc9 (by kernel_rfl) ?_
    rw [Tryd.ntmps9]
    simp only [frs, Nat.reduceAdd, Nat.reduceSub]
    repeat (first | (with_reducible first | refine Way.imp ?_ | refine blk_o rfl ?_) | ((with_reducible refine WayR.imp (fun K hK => ?_)); simp (disch := first | omega | (simp only [dls]; omega)) only [std, reduceIte, reduceCtorEq, Int.reduceToNat, Nat.reduceAdd, Nat.reduceSub, Nat.reduceMul, Int.reduceAdd, Int.reduceSub, Int.reduceMul, Int.reduceNeg, fU, h8, h19, show ¬ (8 < (osl l).length) from by omega, show ¬ (19 < (osl r).length) from by omega, catR1]; subst hK) | (apply call_flat_g (by simp (disch := first | omega | (simp only [dls]; omega)) only [std, reduceIte, reduceCtorEq, Int.reduceToNat, Nat.reduceAdd, Nat.reduceSub, Nat.reduceMul, Int.reduceAdd, Int.reduceSub, Int.reduceMul, Int.reduceNeg, fU, h8, h19, show ¬ (8 < (osl l).length) from by omega, show ¬ (19 < (osl r).length) from by omega, catR1]) (hri) rfl; (case hcl => (simp only [evs, St.ev, constAV, evl]; (repeat (first | exact closeAVs_nil | (apply closeAVs_cons; (first | (refine close_own3 rfl (by decide)) | (refine close_ownO rfl (by decide) ?_; assumption) | rfl)))); done)); (case hf => rfl)) | refine zcA (haw) rfl rfl rfl ?_)
    exact ⟨_, rfl, rfl⟩
  | true =>
  rw [c1] at hri
  obtain ⟨ra, rb⟩ := rule_in c1
  have hmo := pats_more roll l r rfl c1
  have hfl := pats_flip roll l c1
  obtain ⟨ma, mb, mt⟩ := m
  obtain ⟨x, rfl⟩ : ∃ x : Nat, ma = (x : Int) := ⟨ma.toNat, by dsimp only at ra; omega⟩
  obtain ⟨y, rfl⟩ : ∃ y : Nat, mb = (y : Int) := ⟨mb.toNat, by dsimp only at rb; omega⟩
  dsimp only [Int.toNat_natCast] at ra rb hfl
  have hof := lof18_C (some [⟨x, y, mt⟩]) (by show 1 ≤ 1000000; omega)
  change PureC _ _ _ (.ret (aRl (some [⟨x, y, mt⟩]))) at hof
  have ha1 := all_C roll l r
  have ha2 := all_C roll l (some (osl r ++ [⟨x, y, mt⟩]))
  have ha3 := all_C roll l (some [⟨x, y, mt⟩, ⟨x, y, !mt⟩])
  have o1 := osl_allV roll l r
  have o2 := osl_allV roll l (some (osl r ++ [⟨x, y, mt⟩]))
  have o3 := osl_allV roll l (some [⟨x, y, mt⟩, ⟨x, y, !mt⟩])
  have q1 := pats_lt (roll := roll) (l := l) (r := r)
  have q3 := pats_lt (roll := roll) (l := l) (r := some [⟨x, y, mt⟩, ⟨x, y, !mt⟩])
  have n1 := pats_len roll l r
  have n3 := pats_len roll l (some [⟨x, y, mt⟩, ⟨x, y, !mt⟩])
  change ∀ s ∈ patsL roll l (some [⟨x, y, mt⟩, ⟨x, y, !mt⟩]), bitN s x = false ∧ bitN s y = false at hfl
  rw [hmo] at o2
  clear hmo c1
  generalize patsL roll l r = P1 at *
  generalize patsL roll l (some [⟨x, y, mt⟩, ⟨x, y, !mt⟩]) = P3 at *
  generalize allV roll l r = W1 at *
  generalize allV roll l (some (osl r ++ [⟨x, y, mt⟩])) = W2 at *
  generalize allV roll l (some [⟨x, y, mt⟩, ⟨x, y, !mt⟩]) = W3 at *
  have l1 : (osl W1).length = P1.length := by rw [o1]; unfold natI; rw [List.length_map]
  have i1 : ∀ i (h : i < (osl W1).length), (osl W1)[i] = ((P1[i]'(by rw [← l1]; exact h) : Nat) : Int) := fun i h => by simp [o1, natI]
  have l3 : (osl W3).length = P3.length := by rw [o3]; unfold natI; rw [List.length_map]
  have i3 : ∀ i (h : i < (osl W3).length), (osl W3)[i] = ((P3[i]'(by rw [← l3]; exact h) : Nat) : Int) := fun i h => by simp [o3, natI]
  have hz : keptL ⟨x, y, mt⟩ (P1.take 0) = [] := rfl
  have kl : ∀ n, (keptL ⟨x, y, mt⟩ (P1.take n)).length ≤ 4096 := fun n => by
    unfold keptL
    have := List.length_filter_le (fun s => keepsB (some [⟨x, y, mt⟩]) ((s : Nat) : Int)) (P1.take n)
    rw [List.length_take] at this
    omega
  refine pureC_of (rs := [(RV.tmp 8)]) Tryd.func9 (fun a w => Tryd.call9 a w) body9 cc9 (by kernel_rfl) ?_
  rw [Tryd.ntmps9]
  simp only [frs, Nat.reduceAdd, Nat.reduceSub]
  repeat (first | (with_reducible first | refine Way.imp ?_ | refine blk_o rfl ?_) | ((with_reducible refine WayR.imp (fun K hK => ?_)); simp (disch := first | omega | (simp only [dls]; omega)) only [std, reduceIte, reduceCtorEq, Int.reduceToNat, Nat.reduceAdd, Nat.reduceSub, Nat.reduceMul, Int.reduceAdd, Int.reduceSub, Int.reduceMul, Int.reduceNeg, fU, h8, h19, l1, show ¬ (8 < (osl l).length) from by omega, show ¬ (19 < (osl r).length) from by omega, catR1]; subst hK) | (apply call_flat_g (by simp (disch := first | omega | (simp only [dls]; omega)) only [std, reduceIte, reduceCtorEq, Int.reduceToNat, Nat.reduceAdd, Nat.reduceSub, Nat.reduceMul, Int.reduceAdd, Int.reduceSub, Int.reduceMul, Int.reduceNeg, fU, h8, h19, l1, show ¬ (8 < (osl l).length) from by omega, show ¬ (19 < (osl r).length) from by omega, catR1]) (hri) rfl; (case hcl => (simp only [evs, St.ev, constAV, evl]; (repeat (first | exact closeAVs_nil | (apply closeAVs_cons; (first | (refine close_own3 rfl (by decide)) | (refine close_ownO rfl (by decide) ?_; assumption) | rfl)))); done)); (case hf => rfl)) | refine zcA (haw) rfl rfl rfl ?_ | refine zcA (ha1) rfl rfl rfl ?_)
  refine AWp.fgt ?_ (Fgt.openNil (i := 9) rfl 3 1)
  simp only [List.set_cons_succ, List.set_cons_zero, List.length_nil, List.length_cons, List.nil_append, List.cons_append, Nat.reduceAdd]
  refine awp_loop (fun (zz : Nat × (List Int) × Nat × Bool) => ⟨(aI roll :: aWs l :: aRl r :: .junk :: .junk :: .junk :: .junk :: .one (.ptr 0 0 0 0) :: .junk :: .one (.own 2 zz.2.2.1) :: .junk :: .junk :: .junk :: .junk :: .junk :: .junk :: .junk :: .junk :: .junk :: .junk :: .junk :: .junk :: .junk :: .junk :: .junk :: .junk :: .junk :: .junk :: .junk :: .junk :: .junk :: .junk :: .junk :: .junk :: .junk :: .junk :: .junk :: aWs W1 :: aI P1.length :: aI zz.1 :: .junk :: .junk :: .junk :: .junk :: .junk :: .junk :: .junk :: .junk :: .junk :: .junk :: .junk :: .junk :: .junk :: .junk :: .junk :: .junk :: .junk :: .junk :: .junk :: .junk :: .junk :: .junk :: .junk :: .junk :: .junk :: .junk :: .junk :: .junk :: .junk :: .junk :: .junk :: .junk :: .junk :: .junk :: .junk :: .junk :: .junk :: .junk :: .junk :: .junk :: .junk :: .junk :: .junk :: .junk :: .junk :: .junk :: .junk :: .junk :: .junk :: .junk :: .junk :: .junk :: .junk :: .junk :: .junk :: .junk :: .junk :: .junk :: .junk :: .junk :: .junk :: .junk :: .junk :: .junk :: .junk :: .junk :: .junk :: .junk :: .junk :: .junk :: []), [⟨0, 63, 3, [[Cell.c (.val (.int .i64 x)), Cell.c (.val (.int .i64 y)), Cell.c (.val (.bool mt))]], true, true⟩, ⟨1, 63, 3, encB fRl (⟨x, y, mt⟩ :: osl r), true, true⟩, ⟨zz.2.2.1, 3, 1, encB fI zz.2.1, true, zz.2.2.2⟩]⟩) (fun (zz : Nat × (List Int) × Nat × Bool) => zz.1 ≤ P1.length ∧ zz.2.1 = natI (keptL ⟨x, y, mt⟩ (P1.take zz.1)) ∧ zz.2.2.2 = !zz.2.1.isEmpty) (fun (zz : Nat × (List Int) × Nat × Bool) => P1.length - zz.1) (0, [], 0, false) ?hI1 (Fgt.head (Nat.zero_le 3) (true :: true :: true :: false :: false :: false :: false :: true :: false :: true :: false :: false :: false :: false :: false :: false :: false :: false :: false :: false :: false :: false :: false :: false :: false :: false :: false :: false :: false :: false :: false :: false :: false :: false :: false :: false :: false :: true :: true :: true :: []) ?hT1 ?hH1) ?hB1
  case hT1 => first | (simp (disch := omega) only [hds, liveT, cleanAV, cleanCell, clean1, cleanBlk, reduceIte, Int.reduceSub, Int.reduceAdd, Int.reduceNeg, encB_nil]; done) | rfl
  case hH1 => first | (simp (disch := omega) only [hds, liveT, cleanAV, cleanCell, clean1, cleanBlk, reduceIte, Int.reduceSub, Int.reduceAdd, Int.reduceNeg, encB_nil]; done) | rfl
  · dsimp only; exact ⟨Nat.zero_le _, rfl, rfl⟩
  rintro ⟨i, out, v, nn⟩ ⟨hi, ho, hnn⟩
  dsimp only at hi ho hnn
  have kli := kl i
  by_cases hie : i = P1.length
  · rw [hie, List.take_length] at ho
    rw [← o2] at ho
    subst ho
    have hol : (osl W2).length ≤ 4096 := by rw [o2]; unfold natI; rw [List.length_map, ← List.take_length (l := P1)]; exact kl _
    clear hnn
    repeat (first | (with_reducible first | refine Way.imp ?_ | refine blk_o rfl ?_) | ((with_reducible refine WayR.imp (fun K hK => ?_)); simp (disch := first | omega | (simp only [dls]; omega)) only [std, reduceIte, reduceCtorEq, Int.reduceToNat, Nat.reduceAdd, Nat.reduceSub, Nat.reduceMul, Int.reduceAdd, Int.reduceSub, Int.reduceMul, Int.reduceNeg, fU, catR2, l3]; subst hK) | (apply call_ret_b 3 (ha2) rfl; (case hcl => (simp only [evs, St.ev, constAV, evl]; (repeat (first | exact closeAVs_nil | (apply closeAVs_cons; (first | (refine close_own3 rfl (by decide)) | (refine close_ownO rfl (by decide) ?_; assumption) | rfl)))); done)); (case hu => (simp only [evs, St.ev, constAV, evl]; (repeat (first | exact used_nil | (apply used_cons; (first | (apply used_own3; rfl) | rfl)))); done)); (case h1 => ((simp only [fzl, Nat.reduceBEq, Nat.reduceAdd, Bool.false_eq_true, if_true, if_false, reduceIte]) <;> rfl)); (case h2 => rfl); intro bb; simp only [setLive_zero, setLive_succ]) | (apply call_ret_b 5 (ha3) rfl; (case hcl => (simp only [evs, St.ev, constAV, evl]; (repeat (first | exact closeAVs_nil | (apply closeAVs_cons; (first | (refine close_own3 rfl (by decide)) | (refine close_ownO rfl (by decide) ?_; assumption) | rfl)))); done)); (case hu => (simp only [evs, St.ev, constAV, evl]; (repeat (first | exact used_nil | (apply used_cons; (first | (apply used_own3; rfl) | rfl)))); done)); (case h1 => ((simp only [fzl, Nat.reduceBEq, Nat.reduceAdd, Bool.false_eq_true, if_true, if_false, reduceIte]) <;> rfl)); (case h2 => rfl); intro bb; simp only [setLive_zero, setLive_succ]))
    refine awp_loop (fun (zz : Nat) => ⟨(.junk :: .junk :: .junk :: .junk :: .junk :: .junk :: .junk :: .one (.ptr 0 0 0 0) :: .junk :: .one (.own 2 v) :: .junk :: .junk :: aWs W2 :: .junk :: .junk :: .junk :: .junk :: .junk :: .junk :: .junk :: .junk :: .junk :: .junk :: .junk :: .junk :: .junk :: .junk :: .junk :: .junk :: .junk :: .junk :: .junk :: .junk :: .junk :: .junk :: .junk :: .junk :: .junk :: .junk :: .junk :: .junk :: .junk :: .junk :: .junk :: .junk :: .junk :: .junk :: .junk :: .junk :: .junk :: .junk :: .junk :: .junk :: .junk :: .junk :: .junk :: .junk :: .junk :: .junk :: .junk :: .junk :: .junk :: .junk :: .junk :: .junk :: .junk :: .junk :: .junk :: .junk :: .junk :: .junk :: .junk :: aWs W3 :: aI P3.length :: aI zz :: .junk :: .junk :: .junk :: .junk :: .junk :: .junk :: .junk :: .junk :: .junk :: .junk :: .junk :: .junk :: .junk :: .junk :: .junk :: .junk :: .junk :: .junk :: .junk :: .junk :: .junk :: .junk :: .junk :: .junk :: .junk :: .junk :: .junk :: .junk :: .junk :: .junk :: .junk :: .junk :: .junk :: .junk :: .junk :: []), [⟨0, 63, 3, [[Cell.c (.val (.int .i64 x)), Cell.c (.val (.int .i64 y)), Cell.c (.val (.bool mt))]], true, true⟩, ⟨1, 63, 3, encB fRl (⟨x, y, mt⟩ :: osl r), true, true⟩, ⟨v, 3, 1, encB fI (osl W2), true, nn⟩]⟩) (fun (zz : Nat) => zz ≤ P3.length) (fun (zz : Nat) => P3.length - zz) (0) ?hI2 (Fgt.head (Nat.zero_le 3) (false :: false :: false :: false :: false :: false :: false :: true :: false :: true :: false :: false :: true :: false :: false :: false :: false :: false :: false :: false :: false :: false :: false :: false :: false :: false :: false :: false :: false :: false :: false :: false :: false :: false :: false :: false :: false :: false :: false :: false :: false :: false :: false :: false :: false :: false :: false :: false :: false :: false :: false :: false :: false :: false :: false :: false :: false :: false :: false :: false :: false :: false :: false :: false :: false :: false :: false :: false :: false :: false :: false :: false :: true :: true :: true :: []) ?hT2 ?hH2) ?hB2
    case hT2 => first | (simp (disch := omega) only [hds, liveT, cleanAV, cleanCell, clean1, cleanBlk, reduceIte, Int.reduceSub, Int.reduceAdd, Int.reduceNeg]; done) | rfl
    case hH2 => first | (simp (disch := omega) only [hds, liveT, cleanAV, cleanCell, clean1, cleanBlk, reduceIte, Int.reduceSub, Int.reduceAdd, Int.reduceNeg]; done) | rfl
    · exact Nat.zero_le _
    rintro j hj
    by_cases hje : j = P3.length
    · repeat (first | (with_reducible first | refine Way.imp ?_ | refine blk_o rfl ?_) | ((with_reducible refine WayR.imp (fun K hK => ?_)); simp (disch := first | omega | (simp only [dls]; omega)) only [std, reduceIte, reduceCtorEq, Int.reduceToNat, Nat.reduceAdd, Nat.reduceSub, Nat.reduceMul, Int.reduceAdd, Int.reduceSub, Int.reduceMul, Int.reduceNeg, fU]; subst hK))
      refine awp_loop (fun (zz : Nat) => ⟨(.junk :: .junk :: .junk :: .junk :: .junk :: .junk :: .junk :: .junk :: .junk :: .one (.own 2 v) :: .junk :: .junk :: aWs W2 :: .junk :: .junk :: .junk :: .junk :: .junk :: .junk :: .junk :: .junk :: .junk :: .junk :: .junk :: .junk :: .junk :: .junk :: .junk :: .junk :: .junk :: .junk :: .junk :: .junk :: .junk :: .junk :: .junk :: .junk :: .junk :: .junk :: .junk :: .junk :: .junk :: .junk :: .junk :: .junk :: .junk :: .junk :: .junk :: .junk :: .junk :: .junk :: .junk :: .junk :: .junk :: .junk :: .junk :: .junk :: .junk :: .junk :: .junk :: .junk :: .junk :: .junk :: .junk :: .junk :: .junk :: .junk :: .junk :: .junk :: .junk :: .junk :: .junk :: .junk :: .junk :: .junk :: .junk :: .junk :: .junk :: .junk :: .junk :: .junk :: .junk :: .junk :: .junk :: .junk :: .junk :: .junk :: .junk :: .junk :: .junk :: .junk :: .junk :: .junk :: .junk :: .junk :: aI (osl W2).length :: aI zz :: .junk :: .junk :: .junk :: .junk :: .junk :: .junk :: .junk :: .junk :: .junk :: .junk :: .junk :: .junk :: .junk :: []), [⟨0, 63, 3, [[Cell.c (.val (.int .i64 x)), Cell.c (.val (.int .i64 y)), Cell.c (.val (.bool mt))]], true, true⟩, ⟨1, 63, 3, encB fRl (⟨x, y, mt⟩ :: osl r), true, true⟩, ⟨v, 3, 1, encB fI (osl W2), true, nn⟩]⟩) (fun (zz : Nat) => zz ≤ (osl W2).length) (fun (zz : Nat) => (osl W2).length - zz) (0) ?hI3 (Fgt.head (Nat.zero_le 3) (false :: false :: false :: false :: false :: false :: false :: false :: false :: true :: false :: false :: true :: false :: false :: false :: false :: false :: false :: false :: false :: false :: false :: false :: false :: false :: false :: false :: false :: false :: false :: false :: false :: false :: false :: false :: false :: false :: false :: false :: false :: false :: false :: false :: false :: false :: false :: false :: false :: false :: false :: false :: false :: false :: false :: false :: false :: false :: false :: false :: false :: false :: false :: false :: false :: false :: false :: false :: false :: false :: false :: false :: false :: false :: false :: false :: false :: false :: false :: false :: false :: false :: false :: false :: false :: false :: false :: false :: false :: false :: false :: false :: false :: false :: false :: true :: true :: []) ?hT3 ?hH3) ?hB3
      case hT3 => first | (simp (disch := omega) only [hds, liveT, cleanAV, cleanCell, clean1, cleanBlk, reduceIte, Int.reduceSub, Int.reduceAdd, Int.reduceNeg]; done) | rfl
      case hH3 => first | (simp (disch := omega) only [hds, liveT, cleanAV, cleanCell, clean1, cleanBlk, reduceIte, Int.reduceSub, Int.reduceAdd, Int.reduceNeg]; done) | rfl
      · exact Nat.zero_le _
      rintro k hk
      by_cases hke : k = (osl W2).length
      · repeat (first | (with_reducible first | refine Way.imp ?_ | refine blk_o rfl ?_) | ((with_reducible refine WayR.imp (fun K hK => ?_)); simp (disch := first | omega | (simp only [dls]; omega)) only [std, reduceIte, reduceCtorEq, Int.reduceToNat, Nat.reduceAdd, Nat.reduceSub, Nat.reduceMul, Int.reduceAdd, Int.reduceSub, Int.reduceMul, Int.reduceNeg, fU]; subst hK) | refine zcA (haw) rfl rfl rfl ?_)
        exact ⟨_, rfl, rfl⟩
      · have hklt : k < (osl W2).length := by omega
        repeat (first | (with_reducible first | refine Way.imp ?_ | refine blk_o rfl ?_) | ((with_reducible refine WayR.imp (fun K hK => ?_)); simp (disch := first | omega | (simp only [dls]; omega)) only [std, reduceIte, reduceCtorEq, Int.reduceToNat, Nat.reduceAdd, Nat.reduceSub, Nat.reduceMul, Int.reduceAdd, Int.reduceSub, Int.reduceMul, Int.reduceNeg, fU, fI]; subst hK))
        refine ⟨(k + 1), ?hI4, ?hM4, Fgt.head (Nat.zero_le 3) (false :: false :: false :: false :: false :: false :: false :: false :: false :: true :: false :: false :: true :: false :: false :: false :: false :: false :: false :: false :: false :: false :: false :: false :: false :: false :: false :: false :: false :: false :: false :: false :: false :: false :: false :: false :: false :: false :: false :: false :: false :: false :: false :: false :: false :: false :: false :: false :: false :: false :: false :: false :: false :: false :: false :: false :: false :: false :: false :: false :: false :: false :: false :: false :: false :: false :: false :: false :: false :: false :: false :: false :: false :: false :: false :: false :: false :: false :: false :: false :: false :: false :: false :: false :: false :: false :: false :: false :: false :: false :: false :: false :: false :: false :: false :: true :: true :: []) ?hT4 ?hH4⟩
        case hT4 => first | (simp (disch := omega) only [hds, liveT, cleanAV, cleanCell, clean1, cleanBlk, reduceIte, Int.reduceSub, Int.reduceAdd, Int.reduceNeg]; done) | rfl
        case hH4 => first | (simp (disch := omega) only [hds, liveT, cleanAV, cleanCell, clean1, cleanBlk, reduceIte, Int.reduceSub, Int.reduceAdd, Int.reduceNeg]; done) | rfl
        · exact hklt
        · show (osl W2).length - (k + 1) < (osl W2).length - k; omega
    · have hjlt : j < P3.length := by omega
      have hjW : j < (osl W3).length := by omega
      have q := q3 _ (List.getElem_mem hjlt)
      obtain ⟨b1, b2⟩ := hfl _ (List.getElem_mem hjlt)
      have e1 := in_C P3[j] x (by omega) (by omega)
      have e2 := in_C P3[j] y (by omega) (by omega)
      rw [b1] at e1
      rw [b2] at e2
      have hwi := i3 j hjW
      generalize P3[j] = s at *
      repeat (first | (with_reducible first | refine Way.imp ?_ | refine blk_o rfl ?_) | ((with_reducible refine WayR.imp (fun K hK => ?_)); simp (disch := first | omega | (simp only [dls]; omega)) only [std, reduceIte, reduceCtorEq, Int.reduceToNat, Nat.reduceAdd, Nat.reduceSub, Nat.reduceMul, Int.reduceAdd, Int.reduceSub, Int.reduceMul, Int.reduceNeg, fU, fI, l3, hwi]; subst hK) | refine zcA (e1) rfl rfl rfl ?_ | (apply call_any_g (e2) rfl; (case hg => simp (disch := first | omega | (simp only [dls]; omega)) only [std, reduceIte, reduceCtorEq, Int.reduceToNat, Nat.reduceAdd, Nat.reduceSub, Nat.reduceMul, Int.reduceAdd, Int.reduceSub, Int.reduceMul, Int.reduceNeg, fU, fI, l3, hwi]); (case hcl => (simp only [evs, St.ev, constAV, evl]; (repeat (first | exact closeAVs_nil | (apply closeAVs_cons; (first | (refine close_own3 rfl (by decide)) | (refine close_ownO rfl (by decide) ?_; assumption) | rfl)))); done)); (case hu => rfl)))
      refine ⟨(j + 1), ?hI5, ?hM5, Fgt.head (Nat.zero_le 3) (false :: false :: false :: false :: false :: false :: false :: true :: false :: true :: false :: false :: true :: false :: false :: false :: false :: false :: false :: false :: false :: false :: false :: false :: false :: false :: false :: false :: false :: false :: false :: false :: false :: false :: false :: false :: false :: false :: false :: false :: false :: false :: false :: false :: false :: false :: false :: false :: false :: false :: false :: false :: false :: false :: false :: false :: false :: false :: false :: false :: false :: false :: false :: false :: false :: false :: false :: false :: false :: false :: false :: false :: true :: true :: true :: []) ?hT5 ?hH5⟩
      case hT5 => first | (simp (disch := omega) only [hds, liveT, cleanAV, cleanCell, clean1, cleanBlk, reduceIte, Int.reduceSub, Int.reduceAdd, Int.reduceNeg]; done) | rfl
      case hH5 => first | (simp (disch := omega) only [hds, liveT, cleanAV, cleanCell, clean1, cleanBlk, reduceIte, Int.reduceSub, Int.reduceAdd, Int.reduceNeg]; done) | rfl
      · exact hjlt
      · show P3.length - (j + 1) < P3.length - j; omega
  · have hlt : i < P1.length := by omega
    have hltW : i < (osl W1).length := by omega
    have q := q1 _ (List.getElem_mem hlt)
    have hk := keeps18_C (some [⟨x, y, mt⟩]) P1[i] (by omega) (by show 1 ≤ 1000000; omega)
    have hsn := keptL_snoc ⟨x, y, mt⟩ (P1.take i) P1[i]
    rw [← List.take_succ_eq_append_getElem hlt] at hsn
    have hol : out.length ≤ 4096 := by rw [ho]; unfold natI; rw [List.length_map]; exact kli
    have hwi := i1 i hltW
    generalize P1[i] = s at *
    have eA : encB fI out ++ [[Cell.c (.val (.int .i64 ((s : Nat) : Int)))]] = encB fI (out ++ [((s : Nat) : Int)]) := by rw [← encB_append]; rfl
    cases ck : keepsB (some [⟨x, y, mt⟩]) ((s : Nat) : Int) with
    | false =>
      rw [ck] at hk
      rw [ck, if_neg (by simp)] at hsn
      repeat (first | (with_reducible first | refine Way.imp ?_ | refine blk_o rfl ?_) | ((with_reducible refine WayR.imp (fun K hK => ?_)); simp (disch := first | omega | (simp only [dls]; omega)) only [std, reduceIte, reduceCtorEq, Int.reduceToNat, Nat.reduceAdd, Nat.reduceSub, Nat.reduceMul, Int.reduceAdd, Int.reduceSub, Int.reduceMul, Int.reduceNeg, fU, fI, l1, hwi]; subst hK) | (apply call_ret (ids := [3]) (hof) rfl; (case hcl => (simp only [evs, St.ev, constAV, evl]; (repeat (first | exact closeAVs_nil | (apply closeAVs_cons; (first | (refine close_own3 rfl (by decide)) | (refine close_ownO rfl (by decide) ?_; assumption) | rfl)))); done)); (case hf => rfl); (case hu => rfl); (case hh => ((simp only [fzl, Nat.reduceBEq, Nat.reduceAdd, Bool.false_eq_true, if_true, if_false, reduceIte]) <;> rfl))) | refine zcA (hk) rfl rfl rfl ?_)
      refine ⟨(i + 1, out, v, nn), ?hI6, ?hM6, Fgt.head (Nat.zero_le 3) (true :: true :: true :: false :: false :: false :: false :: true :: false :: true :: false :: false :: false :: false :: false :: false :: false :: false :: false :: false :: false :: false :: false :: false :: false :: false :: false :: false :: false :: false :: false :: false :: false :: false :: false :: false :: false :: true :: true :: true :: []) ?hT6 ?hH6⟩
      case hT6 => first | (simp (disch := omega) only [hds, liveT, cleanAV, cleanCell, clean1, cleanBlk, reduceIte, Int.reduceSub, Int.reduceAdd, Int.reduceNeg]; done) | rfl
      case hH6 => first | (simp (disch := omega) only [hds, liveT, cleanAV, cleanCell, clean1, cleanBlk, reduceIte, Int.reduceSub, Int.reduceAdd, Int.reduceNeg]; done) | rfl
      · dsimp only; exact ⟨hlt, by rw [hsn]; exact ho, hnn⟩
      · dsimp only; omega
    | true =>
      rw [ck] at hk
      rw [ck, if_pos rfl] at hsn
      repeat (first | (with_reducible first | refine Way.imp ?_ | refine blk_o rfl ?_) | ((with_reducible refine WayR.imp (fun K hK => ?_)); simp (disch := first | omega | (simp only [dls]; omega)) only [std, reduceIte, reduceCtorEq, Int.reduceToNat, Nat.reduceAdd, Nat.reduceSub, Nat.reduceMul, Int.reduceAdd, Int.reduceSub, Int.reduceMul, Int.reduceNeg, fU, fI, l1, hwi]; subst hK) | (apply call_ret (ids := [3]) (hof) rfl; (case hcl => (simp only [evs, St.ev, constAV, evl]; (repeat (first | exact closeAVs_nil | (apply closeAVs_cons; (first | (refine close_own3 rfl (by decide)) | (refine close_ownO rfl (by decide) ?_; assumption) | rfl)))); done)); (case hf => rfl); (case hu => rfl); (case hh => ((simp only [fzl, Nat.reduceBEq, Nat.reduceAdd, Bool.false_eq_true, if_true, if_false, reduceIte]) <;> rfl))) | refine zcA (hk) rfl rfl rfl ?_)
      refine ⟨(i + 1, out ++ [((s : Nat) : Int)], v + 1, true), ?hI7, ?hM7, Fgt.head (Nat.zero_le 3) (true :: true :: true :: false :: false :: false :: false :: true :: false :: true :: false :: false :: false :: false :: false :: false :: false :: false :: false :: false :: false :: false :: false :: false :: false :: false :: false :: false :: false :: false :: false :: false :: false :: false :: false :: false :: false :: true :: true :: true :: []) ?hT7 ?hH7⟩
      case hT7 => first | (simp (disch := omega) only [hds, liveT, cleanAV, cleanCell, clean1, cleanBlk, reduceIte, Int.reduceSub, Int.reduceAdd, Int.reduceNeg, eA, List.isEmpty_cons, Bool.or_true, Bool.not_false]; done) | rfl
      case hH7 => first | (simp (disch := omega) only [hds, liveT, cleanAV, cleanCell, clean1, cleanBlk, reduceIte, Int.reduceSub, Int.reduceAdd, Int.reduceNeg, eA, List.isEmpty_cons, Bool.or_true, Bool.not_false]; done) | rfl
      · dsimp only; exact ⟨hlt, by rw [hsn, ho]; unfold natI; rw [List.map_append]; rfl, by cases out <;> rfl⟩
      · dsimp only; omega

end Go.Proofs.YtdhkdnmefeeclaaDoor
