/- Walks of math/bits: TrailingZeros (the table as it is laid). -/
import Derived.WalkKit
import Derived.LoopTactic
import Derived.RangeFuncBox
import Derived.RangeFuncBound
import Derived.Shelf.Abstract
import Derived.OwnWalkIn
import Derived.TacticsInMore
import Derived.LoopNIn
import Derived.LoopIn
import Derived.Test.YtdhkdnmefeeclaaDoorA6
import Derived.Test.YtdhkdnmefeeclaaDoorC1
import Derived.Test.YtdhkdnmefeeclaaDoorUA
set_option linter.unusedSimpArgs false
set_option linter.unusedVariables false
set_option linter.unnecessarySimpa false
set_option linter.unusedSimpArgs false
set_option linter.unusedVariables false
set_option maxRecDepth 100000
set_option maxHeartbeats 4000000
namespace Go.Proofs.YtdhkdnmefeeclaaDoor
open Go Go.Am Go.Proofs Go.RowKit Go.Off

abbrev aU64 (z : Int) : AV := .one (.c (.val (.int .u64 z)))
def tabI : List Int := [0, 1, 56, 2, 57, 49, 28, 3, 61, 58, 42, 50, 38, 29, 17, 4, 62, 47, 59, 36, 45, 43, 51, 22, 53, 39, 33, 30, 24, 18, 12, 5, 63, 55, 48, 27, 60, 41, 37, 16, 46, 35, 44, 21, 52, 32, 23, 11, 54, 26, 40, 15, 34, 20, 31, 10, 25, 14, 19, 9, 13, 8, 7, 6]
theorem tab64_eq : tab64 = tabI.map (Value.int .u8) := rfl
def tzI (n : Nat) : Nat := (IntKind.u64.wrap (bits BinOp.and IntKind.u64 ((n : Nat) : Int) (IntKind.u64.wrap (-((n : Nat) : Int))) * 285870213051353865) / 288230376151711744).toNat
theorem tz_tab : ∀ n, n < 4096 → n ≠ 0 → tabI[tzI n]? = some ((tzN n : Nat) : Int) := all4096 (by decide +kernel)
theorem tzN_lt {n : Nat} (h : n < 4096) (h0 : n ≠ 0) : tzN n < 12 := (tz_index n h h0).1
theorem wrap_top (x : Int) : 0 ≤ IntKind.u64.wrap x / 288230376151711744 ∧ IntKind.u64.wrap x / 288230376151711744 < 64 := by
  have h : 0 ≤ IntKind.u64.wrap x ∧ IntKind.u64.wrap x < 18446744073709551616 := by
    have e : IntKind.u64.wrap x = x % 18446744073709551616 := by simp [IntKind.wrap, IntKind.bits, IntKind.signed]
    omega
  omega
set_option maxRecDepth 1000000 in
theorem tz64_walk (n : Nat) (w : World) (h0 : n ≠ 0) (hn : n < 4096) (hT : ∀ j (v : Value), tab64[j]? = some v → w.cell? ⟨1, j, none⟩ = some v) :
    Calls Tryd.prog 121 #[.int .u64 (n : Int)] w fun e w' => e = .returned (.int .i64 (tzN n : Int)) ∧ w' = w := by
  have hc : w.cell? ⟨1, (IntKind.u64.wrap (bits BinOp.and IntKind.u64 ((n : Nat) : Int) (IntKind.u64.wrap (-((n : Nat) : Int))) * 285870213051353865) / 288230376151711744).toNat, none⟩ = some (.int .u8 ((tzN n : Nat) : Int)) := hT _ _ (by
    show tab64[tzI n]? = _
    rw [tab64_eq, List.getElem?_map, tz_tab n hn h0]; rfl)
  have hl := tzN_lt hn h0
  have hb := wrap_top (bits BinOp.and IntKind.u64 ((n : Nat) : Int) (IntKind.u64.wrap (-((n : Nat) : Int))) * 285870213051353865)
  go_enter Tryd.func121, Tryd.ntmps121
  go_wp2
  go_ret
  exact ⟨rfl, rfl⟩

theorem tz64_C (n : Nat) (h0 : n ≠ 0) (hn : n < 4096) : PureC Tryd.prog 121 [aU64 n] (.ret (aI (tzN n))) := by
  refine ⟨fun a w => Tryd.call121 a w, fun w M vals hM hp => ?_⟩
  obtain ⟨v0, q0, e0, p0, hq⟩ := PW.inv hp
  obtain rfl := e0
  obtain rfl : q0 = [] := List.length_eq_zero_iff.1 hq.1.symm
  obtain rfl : v0 = .int .u64 ((n : Nat) : Int) := p0.val
  refine (tz64_walk n w h0 hn (fun j v hj => (hM.2 1 tab64 rfl).2 j v hj)).mono fun e w' ⟨he, hw⟩ => ?_
  subst hw
  exact ⟨_, he, Below.refl _ _, .one _ _ (.c _ _ (.val _ rfl))⟩

abbrev c102 : CC := (.seq (.reg [⟨(some 2), none, (.mv (.const (.int .i64 (0))))⟩]) (.seq (.cond (.const (.bool false)) (.seq (.reg [⟨(some 3), none, (.mv (.tmp 0))⟩, ⟨(some 4), none, (.conv .u32 (.tmp 3))⟩, ⟨(some 5), none, (.callf (.func 120) [(.tmp 4)])⟩, ⟨(some 2), none, (.mv (.tmp 5))⟩]) .ret) .skip) (.seq (.reg [⟨(some 6), none, (.mv (.tmp 0))⟩, ⟨(some 7), none, (.callf (.func 121) [(.tmp 6)])⟩, ⟨(some 2), none, (.mv (.tmp 7))⟩]) .ret)))
theorem cc102 : ccode Tryd.prog [] (Tryd.f102.body.getD .skip) = some c102 := by kernel_rfl
theorem body102 : Tryd.f102.body = some (Tryd.f102.body.getD .skip) := rfl

theorem tz_C (n : Nat) (h0 : n ≠ 0) (hn : n < 4096) : PureC Tryd.prog 102 [aU64 n] (.ret (aI (tzN n))) := by
  have h := tz64_C n h0 hn
  refine pureC_of (rs := [(RV.tmp 2)]) Tryd.func102 (fun a w => Tryd.call102 a w) body102 cc102 (by kernel_rfl) ?_
  rw [Tryd.ntmps102]
  simp only [frs, Nat.reduceAdd, Nat.reduceSub]
  repeat (first | (with_reducible first | refine Way.imp ?_ | refine blk_o rfl ?_) | ((with_reducible refine WayR.imp (fun K hK => ?_)); simp (disch := first | omega | (simp only [dls]; omega)) only [std, reduceIte, reduceCtorEq, Int.reduceToNat, Nat.reduceAdd, Nat.reduceSub, Nat.reduceMul, Int.reduceAdd, Int.reduceSub, Int.reduceMul, Int.reduceNeg, fU]; subst hK) | refine zcA (h) rfl rfl rfl ?_)
  exact ⟨_, rfl, rfl⟩

end Go.Proofs.YtdhkdnmefeeclaaDoor
set_option linter.unusedSimpArgs false
set_option linter.unusedVariables false
set_option maxRecDepth 100000
set_option maxHeartbeats 4000000
namespace Go.Proofs.YtdhkdnmefeeclaaDoor
open Go Go.Am Go.Proofs Go.RowKit Go.Shelf Go.Off

attribute [local go_sem] Oper.semAt_some

theorem bits_nxt : ∀ m, m < 4096 → m ≠ 0 → bits BinOp.and IntKind.i64 ((m : Nat) : Int) (((m : Nat) : Int) - 1) = ((nxtN m : Nat) : Int) := all4096 (by decide +kernel)
theorem kp_grow {w A B : World} {bad : Nat → Prop} (h : A.grownBy B none) : KpOf w bad A B := ⟨h.size, fun g hg hb cs t o hc => (h.block g (Array.getElem?_eq_some_iff.1 hc).1 (by simp)).trans hc⟩
theorem kp_trans {w A B C : World} {bad : Nat → Prop} (h : KpOf w bad A B) (k : KpOf w bad B C) : KpOf w bad A C := ⟨Nat.le_trans h.1 k.1, fun g hg hb cs t o hc => k.2 g hg hb cs t o (h.2 g hg hb cs t o hc)⟩

set_option maxRecDepth 100000 in
set_option maxHeartbeats 4000000 in
theorem items1_in (F : Fence) (hF : F.fn 101) (hF2 : F.fn 102) (hro : F.round = none) (n : Nat) (hn : 1 ≤ n) (l Bs os set : Nat) (hset : set < 4096) (w : World) (bad : Nat → Prop) (J Jx : List Nat → World → Prop) (W : World)
    (hY : ∀ pre (x : Nat) W, x ∈ itemsL set → J pre W → pre.length < (itemsL set).length → YieldAt F (n - 1) Tryd.prog l #[.int .i64 (x : Int)] W fun e W' =>
      ∃ b, e = .returned (.bool b) ∧ (b = true → J (pre ++ [x]) W' ∧ KpOf w bad W W') ∧ (b = false → Jx (pre ++ [x]) W'))
    (hJd : ∀ pre W W', J pre W → W.grownBy W' none → J pre W')
    (hT : ∀ (m : Nat) wr, m ≠ 0 → m < 4096 → KpOf w bad W wr → CallsIn F (n - 1) Tryd.prog 102 #[.int .u64 (m : Int)] wr fun e W' => e = .returned (.int .i64 (tzN m : Int)) ∧ wr.grownBy W' none)
    (hBs : W.cell? ⟨Bs, os, none⟩ = some (.int .i64 (set : Int))) (h0 : J [] W) :
    CallsIn F n Tryd.prog 101 #[.func (.yield l) #[] #[], .pointer (some ⟨Bs, os, none⟩)] W fun e W' => (∃ v, e = .returned v) ∧
      ((∃ ys, ys = itemsL set ∧ J ys W') ∨ (∃ pre, True ∧ Jx pre W')) := by
  refine callsIn_of_wp Tryd.func101 rfl hF ?_ hro
  simp only [Tryd.ntmps101, List.size_toArray, List.length_cons, List.length_nil, Nat.reduceAdd, Nat.reduceSub, Array.replicate_succ, Array.replicate_zero, List.push_toArray, List.append_toArray, List.nil_append, List.cons_append]
  gi_wp2
  gi_loopw [3] (fun v3 wr => ∃ (m : Nat) (pre : List Nat), m < 4096 ∧ v3 = .int .i64 (m : Int) ∧ pre ++ itemsL m = itemsL set ∧ J pre wr ∧ KpOf w bad W wr) (fun i _ => (intOf i).toNat)
  case atStart => exact ⟨set, [], hset, rfl, rfl, h0, ⟨Nat.le_refl _, fun _ _ _ _ _ _ h => h⟩⟩
  case round =>
    obtain ⟨m, pre, hm, rfl, hpre, hJs, hnx⟩ := hrel
    by_cases hz : m = 0
    · subst hz
      gi_wp2
      go_end0
      rw [items_zero, List.append_nil] at hpre
      exact ⟨⟨_, rfl⟩, .inl ⟨_, hpre, hJs⟩⟩
    · obtain ⟨hst, hlt⟩ := items_step m hm hz
      have hbn := bits_nxt m hm hz
      have hlen : pre.length < (itemsL set).length := by rw [← hpre, hst, List.length_append, List.length_cons]; omega
      gi_wp2
      refine (hT m _ hz hm hnx).mono ?_
      rintro e W1 ⟨rfl, hg1⟩
      have hJ1 := hJd _ _ _ hJs hg1
      have hk1 : KpOf w bad W W1 := kp_trans hnx (kp_grow hg1)
      obtain ⟨fn, tmps, assign, body, hy, hR⟩ := hY _ (tzN m) W1 (by rw [← hpre, hst]; simp) hJ1 hlen
      gi_wp2
      refine hR.mono ?_
      rintro e W3 ⟨b, rfl, hbt, hbf⟩
      cases b
      · gi_wp2
        refine bodyPost_ret (results_none rfl _ _ _) rfl ?_
        exact ⟨⟨_, rfl⟩, .inr ⟨_, trivial, hbf (by simp)⟩⟩
      · obtain ⟨hJ4, hk4⟩ := hbt rfl
        gi_wp2
        go_roundw
        case rel => exact ⟨nxtN m, pre ++ [tzN m], by omega, by simp, by rw [List.append_assoc, List.singleton_append, ← hst, hpre], hJ4, kp_trans hk1 hk4⟩
        case measure => simp [intOf]; omega

abbrev itAV {n : Nat} (x : Fin n) : List AV := [aI (x.1 : Int)]
theorem items_iter (set N : Nat) (hset : set < 4096) (hN : ∀ k ∈ itemsL set, k < N) :
    IterC Tryd.prog 101 [.iptr [.val (.int .i64 (set : Int))]] (itAV (n := N)) 1 (fun xs => xs = finK N (itemsL set)) (fun _ => True) (finK N (itemsL set)).length := by
  refine ⟨fun a w => Tryd.call101 a w, fun k => rfl, fun w bad vs hbadG hvs => ?_⟩
  obtain ⟨hbad, hG⟩ := hbadG
  obtain ⟨v0, q0, rfl, hv0, hvs⟩ := PW.inv hvs
  obtain rfl : q0 = [] := List.eq_nil_of_length_eq_zero hvs.1.symm
  cases hv0 with
  | iptr _ Bs os fa hBn hBl hca hva =>
  have cell0 := hca 0 _ rfl
  have cr0 := hva 0 _ rfl
  clear hca hva
  generalize fa 0 = s0 at cell0 cr0
  cases cr0
  refine ⟨fun x => [.int .i64 (x.1 : Int)], fun k => .cons (.one _ _ (.c _ _ (.val _ rfl))) .nil, fun n => ?_⟩
  intro ll J Jx W hW hJ hJx hY h0
  have hAW0 : W.cell? ⟨Bs, os, none⟩ = _ := (hW.cell (p := ⟨Bs, os, none⟩) hBl).trans cell0
  have hJd : ∀ pre A B, J pre A → A.grownBy B none → J pre B := fun pre A B hj hgr => hJ pre A B none hj hgr (by simp)
  have e1 : 1 ≤ n + 1 := by omega
  have hlL : (finK N (itemsL set)).length = (itemsL set).length := by
    rw [← List.length_map (f := Fin.val), finK_val hN]
  refine callsIn_n ((items1_in (Wd none) trivial trivial rfl (n + 1) e1 ll Bs os set hset w bad (fun pre W => ∃ p : List (Fin N), p.map Fin.val = pre ∧ J p W) (fun pre W => ∃ p : List (Fin N), Jx p W) W (fun pre x W1 hx hj hl => ?_)
    (fun pre A B hj hgr => by obtain ⟨p, hp, hj⟩ := hj; exact ⟨p, hp, hJd _ _ _ hj hgr⟩) (fun m wr hm hm2 hkp => ?_) hAW0 ⟨[], rfl, h0⟩).mono ?_) n
  rotate_left
  rotate_left
  · rintro e W' ⟨he, hj⟩
    refine ⟨he, ?_⟩
    rcases hj with ⟨ys, hys, p, hp, hj⟩ | ⟨pre, _, p, hj⟩
    · refine .inl ⟨p, ?_, hj⟩
      show p = finK N (itemsL set)
      rw [← hys, ← hp, finK_map]
    · exact .inr ⟨p, trivial, hj⟩
  · obtain ⟨p, hp, hj⟩ := hj
    have hpl : p.length = pre.length := by rw [← hp, List.length_map]
    refine (yieldAt_alt (hY p ⟨x, hN x hx⟩ W1 hj (by rw [hlL, hpl]; exact hl)) _).mono ?_
    rintro e W' ⟨b, he, h1, h2⟩
    exact ⟨b, he, fun hb => ⟨⟨p ++ [⟨x, hN x hx⟩], by rw [List.map_append, hp]; rfl, (h1 hb).1⟩, (h1 hb).2⟩, fun hb => ⟨_, h2 hb⟩⟩
  have hGr : GB bad wr.heap.size wr := by
    intro g t ht
    obtain ⟨⟨h1, hnb⟩, h2⟩ := hG g t ht
    have hsz : w.heap.size ≤ wr.heap.size := Nat.le_trans hW.size hkp.1
    refine ⟨⟨by omega, hnb⟩, fun j v hj => ?_⟩
    have hc := h2 j v hj
    have hcW : W.cell? ⟨g, j, none⟩ = some v := (hW.cell (p := ⟨g, j, none⟩) h1).trans hc
    exact kp_cell hkp h1 hnb hcW
  have hc := (tz_C m hm hm2).2 wr bad [.int .u64 (m : Int)] ⟨fun g hg => by have := hbad g hg; have := hW.size; have := hkp.1; omega, hGr⟩ (.cons (.one _ _ (.c _ _ (.val _ rfl))) .nil)
  refine (callsIn_wd (hc.mono ?_))
  rintro e W' ⟨v, rfl, hb, hr⟩
  refine ⟨?_, below_grown hb⟩
  congr 1
  exact hr.val

abbrev c72 : CC := (.seq (.reg [⟨(some 1), none, (.box 3 (.tmp 0))⟩, ⟨(some 2), none, (.mv (.const .nilFunc))⟩]) (.seq (.reg [⟨(some 3), none, (.mkfn 101 [(.tmp 1)])⟩, ⟨(some 2), none, (.mv (.tmp 3))⟩]) .ret))
theorem cc72 : ccode Tryd.prog [] (Tryd.f72.body.getD .skip) = some c72 := by kernel_rfl
theorem body72 : Tryd.f72.body = some (Tryd.f72.body.getD .skip) := rfl

theorem items_C (n : Int) : PureC Tryd.prog 72 [aI n] (.ret (.one (.fn 101 [.iptr [.val (.int .i64 n)]]))) := by
  refine pureC_of (rs := [(RV.tmp 2)]) Tryd.func72 (fun a w => Tryd.call72 a w) body72 cc72 (by kernel_rfl) ?_
  rw [Tryd.ntmps72]
  simp only [frs, Nat.reduceAdd, Nat.reduceSub]
  repeat (first | (with_reducible first | refine Way.imp ?_ | refine blk_o rfl ?_) | ((with_reducible refine WayR.imp (fun K hK => ?_)); simp (disch := first | omega | (simp only [dls]; omega)) only [std, reduceIte, reduceCtorEq, Int.reduceToNat, Nat.reduceAdd, Nat.reduceSub, Nat.reduceMul, Int.reduceAdd, Int.reduceSub, Int.reduceMul, Int.reduceNeg, fU]; subst hK))
  exact ⟨_, rfl, rfl⟩

end Go.Proofs.YtdhkdnmefeeclaaDoor
set_option linter.unusedSimpArgs false
set_option linter.unusedVariables false
set_option maxRecDepth 100000
set_option maxHeartbeats 4000000
namespace Go.Proofs.YtdhkdnmefeeclaaDoor
open Go Go.Am Go.Proofs Go.RowKit Go.Off

abbrev WI := Option (List Int)
abbrev aWs (l : WI) : AV := .one (.c (encSl 1 fI l))
def iAt (l : WI) (k : Nat) : Int := (osl l).getD k 0
theorem iAt_in {l : WI} {k : Nat} (h : k < (osl l).length) : iAt l k = (osl l)[k] := by
  unfold iAt; rw [List.getD_eq_getElem?_getD, List.getElem?_eq_getElem h]; rfl
def badW (roll w : Int) : Bool := decide (w < 1) || decide (roll < w)
def wdBad (roll : Int) (l : WI) (i : Nat) : Bool := badW roll (iAt l i)
def mayB (roll : Int) (l : WI) : Bool := (decide (1 ≤ roll) && decide (roll ≤ 1048576)) && (decide ((osl l).length ≤ 12) && !anyI (wdBad roll l) (osl l).length)
abbrev aMw (roll : Int) : AV := .one (.fn 95 [.iptr [.val (.int .i64 roll)]])

abbrev c95 : CC := (.seq (.reg [⟨(some 3), none, (.mv (.const (.bool false)))⟩]) (.seq (.reg [⟨(some 4), none, (.mv (.tmp 0))⟩, ⟨(some 5), none, (.bin .lss (.tmp 4) (.const (.int .i64 (1))))⟩, ⟨(some 6), none, (.mv (.tmp 5))⟩, ⟨(some 7), (some (6, false)), (.mv (.tmp 0))⟩, ⟨(some 8), (some (6, false)), (.load 1 false (.tmp 1))⟩, ⟨(some 9), (some (6, false)), (.bin .gtr (.tmp 7) (.tmp 8))⟩, ⟨(some 10), none, (.pick (.tmp 6) (.const (.bool true)) (.tmp 9))⟩, ⟨(some 3), none, (.mv (.tmp 10))⟩]) .ret))
theorem cc95 : ccode Tryd.prog [] (Tryd.f95.body.getD .skip) = some c95 := by kernel_rfl
theorem body95 : Tryd.f95.body = some (Tryd.f95.body.getD .skip) := rfl

theorem badW_C (roll w : Int) : PureC Tryd.prog 95 [aI w, .one (.iptr [.val (.int .i64 roll)])] (.ret (aB (badW roll w))) := by
  unfold badW
  by_cases h1 : w < 1
  · rw [decide_eq_true h1, Bool.true_or]
    refine pureC_of (rs := [(RV.tmp 3)]) Tryd.func95 (fun a w => Tryd.call95 a w) body95 cc95 (by kernel_rfl) ?_
    rw [Tryd.ntmps95]
    simp only [frs, Nat.reduceAdd, Nat.reduceSub]
    repeat (first | (with_reducible first | refine Way.imp ?_ | refine blk_o rfl ?_) | ((with_reducible refine WayR.imp (fun K hK => ?_)); simp (disch := first | omega | (simp only [dls]; omega)) only [std, reduceIte, reduceCtorEq, Int.reduceToNat, Nat.reduceAdd, Nat.reduceSub, Nat.reduceMul, Int.reduceAdd, Int.reduceSub, Int.reduceMul, Int.reduceNeg, fU]; subst hK))
    exact ⟨_, rfl, rfl⟩
  · rw [decide_eq_false h1, Bool.false_or]
    by_cases h2 : roll < w
    · rw [decide_eq_true h2]
      refine pureC_of (rs := [(RV.tmp 3)]) Tryd.func95 (fun a w => Tryd.call95 a w) body95 cc95 (by kernel_rfl) ?_
      rw [Tryd.ntmps95]
      simp only [frs, Nat.reduceAdd, Nat.reduceSub]
      repeat (first | (with_reducible first | refine Way.imp ?_ | refine blk_o rfl ?_) | ((with_reducible refine WayR.imp (fun K hK => ?_)); simp (disch := first | omega | (simp only [dls]; omega)) only [std, reduceIte, reduceCtorEq, Int.reduceToNat, Nat.reduceAdd, Nat.reduceSub, Nat.reduceMul, Int.reduceAdd, Int.reduceSub, Int.reduceMul, Int.reduceNeg, fU]; subst hK))
      exact ⟨_, rfl, rfl⟩
    · rw [decide_eq_false h2]
      refine pureC_of (rs := [(RV.tmp 3)]) Tryd.func95 (fun a w => Tryd.call95 a w) body95 cc95 (by kernel_rfl) ?_
      rw [Tryd.ntmps95]
      simp only [frs, Nat.reduceAdd, Nat.reduceSub]
      repeat (first | (with_reducible first | refine Way.imp ?_ | refine blk_o rfl ?_) | ((with_reducible refine WayR.imp (fun K hK => ?_)); simp (disch := first | omega | (simp only [dls]; omega)) only [std, reduceIte, reduceCtorEq, Int.reduceToNat, Nat.reduceAdd, Nat.reduceSub, Nat.reduceMul, Int.reduceAdd, Int.reduceSub, Int.reduceMul, Int.reduceNeg, fU]; subst hK))
      exact ⟨_, rfl, rfl⟩

abbrev c119_k1 : CC := (.seq (.reg [⟨(some 4), none, (.mv (.const (.int .i64 (-1))))⟩]) .ret)
abbrev c119_b1 : CC := (.seq (.reg [⟨(some 9), none, (.bin .lss (.tmp 8) (.tmp 7))⟩]) (.seq (.cond (.tmp 9) .skip (.exit 0)) (.seq (.block 1 (.seq (.reg [⟨(some 10), none, (.mv (.tmp 8))⟩, ⟨(some 5), none, (.mv (.tmp 10))⟩]) (.seq (.reg [⟨(some 11), none, (.mv (.tmp 1))⟩, ⟨(some 12), none, (.mv (.tmp 0))⟩, ⟨(some 13), none, (.mv (.tmp 5))⟩, ⟨(some 14), none, (.iaddr 1 none (.tmp 12) (.tmp 13))⟩, ⟨(some 15), none, (.load 1 false (.tmp 14))⟩, ⟨(some 16), none, (.callf (.tmp 11) [(.tmp 15)])⟩]) (.cond (.tmp 16) (.seq (.reg [⟨(some 17), none, (.mv (.tmp 5))⟩, ⟨(some 4), none, (.mv (.tmp 17))⟩]) .ret) .skip)))) (.reg [⟨(some 18), none, (.bin .add (.tmp 8) (.const (.int .i64 (1))))⟩, ⟨(some 8), none, (.mv (.tmp 18))⟩]))))
abbrev c119 : CC := (.seq (.reg [⟨(some 4), none, (.mv (.const (.int .i64 (0))))⟩]) (.seq (.seq (.reg [⟨(some 6), none, (.mv (.tmp 0))⟩, ⟨(some 7), none, (.len false (.tmp 6))⟩, ⟨(some 8), none, (.mv (.const (.int .i64 (0))))⟩]) (.block 0 (.loop c119_b1))) c119_k1))
theorem cc119 : ccode Tryd.prog [] (Tryd.f119.body.getD .skip) = some c119 := by kernel_rfl
theorem body119 : Tryd.f119.body = some (Tryd.f119.body.getD .skip) := rfl

theorem idxW_C (roll : Int) (l : WI) (hl : (osl l).length ≤ 1000000) : PureC Tryd.prog 119 [aWs l, aMw roll] (.ret (aI (fstI (wdBad roll l) (osl l).length))) := by
  refine pureC_of (rs := [(RV.tmp 4)]) Tryd.func119 (fun a w => Tryd.call119 a w) body119 cc119 (by kernel_rfl) ?_
  rw [Tryd.ntmps119]
  simp only [frs, Nat.reduceAdd, Nat.reduceSub]
  repeat (first | (with_reducible first | refine Way.imp ?_ | refine blk_o rfl ?_) | ((with_reducible refine WayR.imp (fun K hK => ?_)); simp (disch := first | omega | (simp only [dls]; omega)) only [std, reduceIte, reduceCtorEq, Int.reduceToNat, Nat.reduceAdd, Nat.reduceSub, Nat.reduceMul, Int.reduceAdd, Int.reduceSub, Int.reduceMul, Int.reduceNeg, fU]; subst hK))
  refine awp_loop (fun (zz : Nat) => ⟨(aWs l :: aMw roll :: .junk :: .junk :: aI 0 :: .junk :: aWs l :: aI (osl l).length :: aI zz :: .junk :: .junk :: .junk :: .junk :: .junk :: .junk :: .junk :: .junk :: .junk :: .junk :: []), []⟩) (fun (zz : Nat) => zz ≤ (osl l).length ∧ anyI (wdBad roll l) zz = false) (fun (zz : Nat) => (osl l).length - zz) (0) ?hI1 (Fgt.head (Nat.le_refl _) [true, true, false, false, true, false, true, true, true] ?hT1 ?hH1) ?hB1
  case hT1 => first | (simp (disch := omega) only [hds, liveT, cleanAV, cleanCell, clean1, cleanBlk, reduceIte, Int.reduceSub, Int.reduceAdd, Int.reduceNeg]; done) | rfl
  case hH1 => first | (simp (disch := omega) only [hds, liveT, cleanAV, cleanCell, clean1, cleanBlk, reduceIte, Int.reduceSub, Int.reduceAdd, Int.reduceNeg]; done) | rfl
  · exact ⟨Nat.zero_le _, rfl⟩
  rintro i ⟨hi, hs⟩
  by_cases him : i = (osl l).length
  · repeat (first | (with_reducible first | refine Way.imp ?_ | refine blk_o rfl ?_) | ((with_reducible refine WayR.imp (fun K hK => ?_)); simp (disch := first | omega | (simp only [dls]; omega)) only [std, reduceIte, reduceCtorEq, Int.reduceToNat, Nat.reduceAdd, Nat.reduceSub, Nat.reduceMul, Int.reduceAdd, Int.reduceSub, Int.reduceMul, Int.reduceNeg, fU]; subst hK))
    rw [fstI_none (by rw [← him]; exact hs)]
    exact ⟨_, rfl, rfl⟩
  · have hlt : i < (osl l).length := by omega
    have hz := badW_C roll (osl l)[i]
    have hb : wdBad roll l i = badW roll (osl l)[i] := by unfold wdBad; rw [iAt_in hlt]
    cases he : badW roll (osl l)[i] with
    | false =>
      rw [he] at hz hb
      repeat (first | (with_reducible first | refine Way.imp ?_ | refine blk_o rfl ?_) | ((with_reducible refine WayR.imp (fun K hK => ?_)); simp (disch := first | omega | (simp only [dls]; omega)) only [std, reduceIte, reduceCtorEq, Int.reduceToNat, Nat.reduceAdd, Nat.reduceSub, Nat.reduceMul, Int.reduceAdd, Int.reduceSub, Int.reduceMul, Int.reduceNeg, fU, fI]; subst hK) | refine zcV (hz) rfl rfl rfl ?_)
      refine ⟨(i + 1), ?hI2, ?hM2, Fgt.head (Nat.le_refl _) [true, true, false, false, true, false, true, true, true] ?hT2 ?hH2⟩
      case hT2 => first | (simp (disch := omega) only [hds, liveT, cleanAV, cleanCell, clean1, cleanBlk, reduceIte, Int.reduceSub, Int.reduceAdd, Int.reduceNeg]; done) | rfl
      case hH2 => first | (simp (disch := omega) only [hds, liveT, cleanAV, cleanCell, clean1, cleanBlk, reduceIte, Int.reduceSub, Int.reduceAdd, Int.reduceNeg]; done) | rfl
      · exact ⟨Nat.succ_le_of_lt hlt, by rw [anyI_succ, hs, hb]; rfl⟩
      · show (osl l).length - (i + 1) < (osl l).length - i; omega
    | true =>
      rw [he] at hz hb
      repeat (first | (with_reducible first | refine Way.imp ?_ | refine blk_o rfl ?_) | ((with_reducible refine WayR.imp (fun K hK => ?_)); simp (disch := first | omega | (simp only [dls]; omega)) only [std, reduceIte, reduceCtorEq, Int.reduceToNat, Nat.reduceAdd, Nat.reduceSub, Nat.reduceMul, Int.reduceAdd, Int.reduceSub, Int.reduceMul, Int.reduceNeg, fU, fI]; subst hK) | refine zcV (hz) rfl rfl rfl ?_)
      rw [fstI_some hlt hs hb]
      exact ⟨_, rfl, rfl⟩

abbrev c96 : CC := (.seq (.reg [⟨(some 4), none, (.mv (.const (.bool false)))⟩]) (.seq (.reg [⟨(some 5), none, (.mv (.tmp 0))⟩, ⟨(some 6), none, (.mv (.tmp 1))⟩, ⟨(some 7), none, (.callf (.func 119) [(.tmp 5), (.tmp 6)])⟩, ⟨(some 8), none, (.bin .geq (.tmp 7) (.const (.int .i64 (0))))⟩, ⟨(some 4), none, (.mv (.tmp 8))⟩]) .ret))
theorem cc96 : ccode Tryd.prog [] (Tryd.f96.body.getD .skip) = some c96 := by kernel_rfl
theorem body96 : Tryd.f96.body = some (Tryd.f96.body.getD .skip) := rfl

theorem conW_C (roll : Int) (l : WI) (hl : (osl l).length ≤ 1000000) : PureC Tryd.prog 96 [aWs l, aMw roll] (.ret (aB (anyI (wdBad roll l) (osl l).length))) := by
  have hx := idxW_C roll l hl
  rw [← fstI_any]
  generalize fstI (wdBad roll l) (osl l).length = k at *
  refine pureC_of (rs := [(RV.tmp 4)]) Tryd.func96 (fun a w => Tryd.call96 a w) body96 cc96 (by kernel_rfl) ?_
  rw [Tryd.ntmps96]
  simp only [frs, Nat.reduceAdd, Nat.reduceSub]
  repeat (first | (with_reducible first | refine Way.imp ?_ | refine blk_o rfl ?_) | ((with_reducible refine WayR.imp (fun K hK => ?_)); simp (disch := first | omega | (simp only [dls]; omega)) only [std, reduceIte, reduceCtorEq, Int.reduceToNat, Nat.reduceAdd, Nat.reduceSub, Nat.reduceMul, Int.reduceAdd, Int.reduceSub, Int.reduceMul, Int.reduceNeg, fU]; subst hK) | refine zcA (hx) rfl rfl rfl ?_)
  exact ⟨_, rfl, rfl⟩

abbrev c67 : CC := (.seq (.reg [⟨(some 2), none, (.box 3 (.tmp 0))⟩, ⟨(some 4), none, (.mv (.const (.bool false)))⟩]) (.seq (.reg [⟨(some 6), none, (.mkfn 95 [(.tmp 2)])⟩, ⟨(some 5), none, (.mv (.tmp 6))⟩]) (.seq (.reg [⟨(some 7), none, (.load 1 false (.tmp 2))⟩, ⟨(some 8), none, (.bin .geq (.tmp 7) (.const (.int .i64 (1))))⟩, ⟨(some 9), none, (.mv (.tmp 8))⟩, ⟨(some 10), (some (9, true)), (.load 1 false (.tmp 2))⟩, ⟨(some 11), (some (9, true)), (.bin .leq (.tmp 10) (.const (.int .i64 (1048576))))⟩, ⟨(some 12), none, (.pick (.tmp 9) (.tmp 11) (.const (.bool false)))⟩, ⟨(some 13), none, (.mv (.tmp 12))⟩, ⟨(some 14), (some (13, true)), (.mv (.tmp 1))⟩, ⟨(some 15), (some (13, true)), (.len false (.tmp 14))⟩, ⟨(some 16), (some (13, true)), (.bin .leq (.tmp 15) (.const (.int .i64 (12))))⟩, ⟨(some 17), none, (.pick (.tmp 13) (.tmp 16) (.const (.bool false)))⟩, ⟨(some 18), none, (.mv (.tmp 17))⟩, ⟨(some 19), (some (18, true)), (.mv (.tmp 1))⟩, ⟨(some 20), (some (18, true)), (.mv (.tmp 5))⟩, ⟨(some 21), (some (18, true)), (.callf (.func 96) [(.tmp 19), (.tmp 20)])⟩, ⟨(some 22), (some (18, true)), (.un .not (.tmp 21))⟩, ⟨(some 23), none, (.pick (.tmp 18) (.tmp 22) (.const (.bool false)))⟩, ⟨(some 4), none, (.mv (.tmp 23))⟩]) .ret)))
theorem cc67 : ccode Tryd.prog [] (Tryd.f67.body.getD .skip) = some c67 := by kernel_rfl
theorem body67 : Tryd.f67.body = some (Tryd.f67.body.getD .skip) := rfl

theorem may_C (roll : Int) (l : WI) : PureC Tryd.prog 67 [aI roll, aWs l] (.ret (aB (mayB roll l))) := by
  unfold mayB
  by_cases h1 : 1 ≤ roll
  case neg =>
    rw [decide_eq_false h1, Bool.false_and, Bool.false_and]
    refine pureC_of (rs := [(RV.tmp 4)]) Tryd.func67 (fun a w => Tryd.call67 a w) body67 cc67 (by kernel_rfl) ?_
    rw [Tryd.ntmps67]
    simp only [frs, Nat.reduceAdd, Nat.reduceSub]
    repeat (first | (with_reducible first | refine Way.imp ?_ | refine blk_o rfl ?_) | ((with_reducible refine WayR.imp (fun K hK => ?_)); simp (disch := first | omega | (simp only [dls]; omega)) only [std, reduceIte, reduceCtorEq, Int.reduceToNat, Nat.reduceAdd, Nat.reduceSub, Nat.reduceMul, Int.reduceAdd, Int.reduceSub, Int.reduceMul, Int.reduceNeg, fU]; subst hK))
    exact ⟨_, rfl, rfl⟩
  by_cases h2 : roll ≤ 1048576
  case neg =>
    rw [decide_eq_false h2, Bool.and_false, Bool.false_and]
    refine pureC_of (rs := [(RV.tmp 4)]) Tryd.func67 (fun a w => Tryd.call67 a w) body67 cc67 (by kernel_rfl) ?_
    rw [Tryd.ntmps67]
    simp only [frs, Nat.reduceAdd, Nat.reduceSub]
    repeat (first | (with_reducible first | refine Way.imp ?_ | refine blk_o rfl ?_) | ((with_reducible refine WayR.imp (fun K hK => ?_)); simp (disch := first | omega | (simp only [dls]; omega)) only [std, reduceIte, reduceCtorEq, Int.reduceToNat, Nat.reduceAdd, Nat.reduceSub, Nat.reduceMul, Int.reduceAdd, Int.reduceSub, Int.reduceMul, Int.reduceNeg, fU]; subst hK))
    exact ⟨_, rfl, rfl⟩
  rw [decide_eq_true h1, decide_eq_true h2, Bool.true_and, Bool.true_and]
  by_cases h3 : (osl l).length ≤ 12
  case neg =>
    rw [decide_eq_false h3, Bool.false_and]
    refine pureC_of (rs := [(RV.tmp 4)]) Tryd.func67 (fun a w => Tryd.call67 a w) body67 cc67 (by kernel_rfl) ?_
    rw [Tryd.ntmps67]
    simp only [frs, Nat.reduceAdd, Nat.reduceSub]
    repeat (first | (with_reducible first | refine Way.imp ?_ | refine blk_o rfl ?_) | ((with_reducible refine WayR.imp (fun K hK => ?_)); simp (disch := first | omega | (simp only [dls]; omega)) only [std, reduceIte, reduceCtorEq, Int.reduceToNat, Nat.reduceAdd, Nat.reduceSub, Nat.reduceMul, Int.reduceAdd, Int.reduceSub, Int.reduceMul, Int.reduceNeg, fU]; subst hK))
    exact ⟨_, rfl, rfl⟩
  have hc := conW_C roll l (by omega)
  rw [decide_eq_true h3, Bool.true_and]
  generalize anyI (wdBad roll l) (osl l).length = z at *
  refine pureC_of (rs := [(RV.tmp 4)]) Tryd.func67 (fun a w => Tryd.call67 a w) body67 cc67 (by kernel_rfl) ?_
  rw [Tryd.ntmps67]
  simp only [frs, Nat.reduceAdd, Nat.reduceSub]
  repeat (first | (with_reducible first | refine Way.imp ?_ | refine blk_o rfl ?_) | ((with_reducible refine WayR.imp (fun K hK => ?_)); simp (disch := first | omega | (simp only [dls]; omega)) only [std, reduceIte, reduceCtorEq, Int.reduceToNat, Nat.reduceAdd, Nat.reduceSub, Nat.reduceMul, Int.reduceAdd, Int.reduceSub, Int.reduceMul, Int.reduceNeg, fU]; subst hK) | (apply call_flat_g (by simp (disch := first | omega | (simp only [dls]; omega)) only [std, reduceIte, reduceCtorEq, Int.reduceToNat, Nat.reduceAdd, Nat.reduceSub, Nat.reduceMul, Int.reduceAdd, Int.reduceSub, Int.reduceMul, Int.reduceNeg, fU]) (hc) rfl; (case hcl => (simp only [evs, St.ev, constAV, evl]; (repeat (first | exact closeAVs_nil | (apply closeAVs_cons; (first | (refine close_own3 rfl (by decide)) | (refine close_ownO rfl (by decide) ?_; assumption) | rfl)))); done)); (case hf => rfl)))
  exact ⟨_, rfl, rfl⟩

structure MayOk (roll : Int) (l : WI) : Prop where
  rl : 1 ≤ roll ∧ roll ≤ 1048576
  len : (osl l).length ≤ 12
  wid : ∀ i, i < (osl l).length → 1 ≤ iAt l i ∧ iAt l i ≤ roll
theorem may_of {roll : Int} {l : WI} (h : mayB roll l = true) : MayOk roll l := by
  unfold mayB at h
  simp only [Bool.and_eq_true, decide_eq_true_eq] at h
  obtain ⟨h1, h2, h3⟩ := h
  refine ⟨h1, h2, fun i hi => ?_⟩
  have := anyI_false (by simpa using h3) hi
  unfold wdBad badW at this
  simp only [Bool.or_eq_false_iff, decide_eq_false_iff_not] at this
  omega

abbrev c38_k1 : CC := (.seq (.reg [⟨(some 4), none, (.mv (.const (.bool true)))⟩]) .ret)
abbrev c38_b1 : CC := (.seq (.seq (.reg [⟨(some 17), none, (.mv (.tmp 5))⟩, ⟨(some 18), none, (.mv (.tmp 1))⟩, ⟨(some 19), none, (.len false (.tmp 18))⟩, ⟨(some 20), none, (.bin .lss (.tmp 17) (.tmp 19))⟩]) (.cond (.tmp 20) .skip (.exit 0))) (.seq (.block 1 (.seq (.reg [⟨(some 23), none, (.mv (.tmp 1))⟩, ⟨(some 24), none, (.mv (.tmp 5))⟩, ⟨(some 25), none, (.iaddr 1 none (.tmp 23) (.tmp 24))⟩, ⟨(some 26), none, (.load 1 false (.tmp 25))⟩, ⟨(some 27), none, (.bin .lss (.tmp 26) (.const (.int .i64 (1))))⟩, ⟨(some 28), none, (.mv (.tmp 27))⟩, ⟨(some 29), (some (28, false)), (.mv (.tmp 1))⟩, ⟨(some 30), (some (28, false)), (.mv (.tmp 5))⟩, ⟨(some 31), (some (28, false)), (.iaddr 1 none (.tmp 29) (.tmp 30))⟩, ⟨(some 32), (some (28, false)), (.load 1 false (.tmp 31))⟩, ⟨(some 33), (some (28, false)), (.mv (.tmp 0))⟩, ⟨(some 34), (some (28, false)), (.bin .gtr (.tmp 32) (.tmp 33))⟩, ⟨(some 35), none, (.pick (.tmp 28) (.const (.bool true)) (.tmp 34))⟩]) (.cond (.tmp 35) (.seq (.reg [⟨(some 4), none, (.mv (.const (.bool false)))⟩]) .ret) .skip))) (.reg [⟨(some 21), none, (.mv (.tmp 5))⟩, ⟨(some 22), none, (.bin .add (.tmp 21) (.const (.int .i64 (1))))⟩, ⟨(some 5), none, (.mv (.tmp 22))⟩])))
abbrev c38 : CC := (.seq (.reg [⟨(some 4), none, (.mv (.const (.bool false)))⟩]) (.seq (.seq (.reg [⟨(some 6), none, (.mv (.tmp 0))⟩, ⟨(some 7), none, (.bin .lss (.tmp 6) (.const (.int .i64 (1))))⟩, ⟨(some 8), none, (.mv (.tmp 7))⟩, ⟨(some 9), (some (8, false)), (.mv (.tmp 0))⟩, ⟨(some 10), (some (8, false)), (.bin .gtr (.tmp 9) (.const (.int .i64 (1048576))))⟩, ⟨(some 11), none, (.pick (.tmp 8) (.const (.bool true)) (.tmp 10))⟩, ⟨(some 12), none, (.mv (.tmp 11))⟩, ⟨(some 13), (some (12, false)), (.mv (.tmp 1))⟩, ⟨(some 14), (some (12, false)), (.len false (.tmp 13))⟩, ⟨(some 15), (some (12, false)), (.bin .gtr (.tmp 14) (.const (.int .i64 (12))))⟩, ⟨(some 16), none, (.pick (.tmp 12) (.const (.bool true)) (.tmp 15))⟩]) (.cond (.tmp 16) (.seq (.reg [⟨(some 4), none, (.mv (.const (.bool false)))⟩]) .ret) .skip)) (.seq (.seq (.reg [⟨(some 5), none, (.mv (.const (.int .i64 (0))))⟩]) (.block 0 (.loop c38_b1))) c38_k1)))
theorem cc38 : ccode Tryd.prog [] (Tryd.f38.body.getD .skip) = some c38 := by kernel_rfl
theorem body38 : Tryd.f38.body = some (Tryd.f38.body.getD .skip) := rfl

theorem may17_C (roll : Int) (l : WI) : PureC Tryd.prog 38 [aI roll, aWs l] (.ret (aB (mayB roll l))) := by
  unfold mayB
  by_cases h1 : 1 ≤ roll
  case neg =>
    rw [decide_eq_false h1, Bool.false_and, Bool.false_and]
    refine pureC_of (rs := [(RV.tmp 4)]) Tryd.func38 (fun a w => Tryd.call38 a w) body38 cc38 (by kernel_rfl) ?_
    rw [Tryd.ntmps38]
    simp only [frs, Nat.reduceAdd, Nat.reduceSub]
    repeat (first | (with_reducible first | refine Way.imp ?_ | refine blk_o rfl ?_) | ((with_reducible refine WayR.imp (fun K hK => ?_)); simp (disch := first | omega | (simp only [dls]; omega)) only [std, reduceIte, reduceCtorEq, Int.reduceToNat, Nat.reduceAdd, Nat.reduceSub, Nat.reduceMul, Int.reduceAdd, Int.reduceSub, Int.reduceMul, Int.reduceNeg, fU]; subst hK))
    exact ⟨_, rfl, rfl⟩
  by_cases h2 : roll ≤ 1048576
  case neg =>
    rw [decide_eq_false h2, Bool.and_false, Bool.false_and]
    refine pureC_of (rs := [(RV.tmp 4)]) Tryd.func38 (fun a w => Tryd.call38 a w) body38 cc38 (by kernel_rfl) ?_
    rw [Tryd.ntmps38]
    simp only [frs, Nat.reduceAdd, Nat.reduceSub]
    repeat (first | (with_reducible first | refine Way.imp ?_ | refine blk_o rfl ?_) | ((with_reducible refine WayR.imp (fun K hK => ?_)); simp (disch := first | omega | (simp only [dls]; omega)) only [std, reduceIte, reduceCtorEq, Int.reduceToNat, Nat.reduceAdd, Nat.reduceSub, Nat.reduceMul, Int.reduceAdd, Int.reduceSub, Int.reduceMul, Int.reduceNeg, fU]; subst hK))
    exact ⟨_, rfl, rfl⟩
  rw [decide_eq_true h1, decide_eq_true h2, Bool.true_and, Bool.true_and]
  by_cases h3 : (osl l).length ≤ 12
  case neg =>
    rw [decide_eq_false h3, Bool.false_and]
    refine pureC_of (rs := [(RV.tmp 4)]) Tryd.func38 (fun a w => Tryd.call38 a w) body38 cc38 (by kernel_rfl) ?_
    rw [Tryd.ntmps38]
    simp only [frs, Nat.reduceAdd, Nat.reduceSub]
    repeat (first | (with_reducible first | refine Way.imp ?_ | refine blk_o rfl ?_) | ((with_reducible refine WayR.imp (fun K hK => ?_)); simp (disch := first | omega | (simp only [dls]; omega)) only [std, reduceIte, reduceCtorEq, Int.reduceToNat, Nat.reduceAdd, Nat.reduceSub, Nat.reduceMul, Int.reduceAdd, Int.reduceSub, Int.reduceMul, Int.reduceNeg, fU]; subst hK))
    exact ⟨_, rfl, rfl⟩
  rw [decide_eq_true h3, Bool.true_and]
  refine pureC_of (rs := [(RV.tmp 4)]) Tryd.func38 (fun a w => Tryd.call38 a w) body38 cc38 (by kernel_rfl) ?_
  rw [Tryd.ntmps38]
  simp only [frs, Nat.reduceAdd, Nat.reduceSub]
  repeat (first | (with_reducible first | refine Way.imp ?_ | refine blk_o rfl ?_) | ((with_reducible refine WayR.imp (fun K hK => ?_)); simp (disch := first | omega | (simp only [dls]; omega)) only [std, reduceIte, reduceCtorEq, Int.reduceToNat, Nat.reduceAdd, Nat.reduceSub, Nat.reduceMul, Int.reduceAdd, Int.reduceSub, Int.reduceMul, Int.reduceNeg, fU]; subst hK))
  refine awp_loop (fun (zz : Nat) => ⟨(aI roll :: aWs l :: .junk :: .junk :: .junk :: aI zz :: .junk :: .junk :: .junk :: .junk :: .junk :: .junk :: .junk :: .junk :: .junk :: .junk :: .junk :: .junk :: .junk :: .junk :: .junk :: .junk :: .junk :: .junk :: .junk :: .junk :: .junk :: .junk :: .junk :: .junk :: .junk :: .junk :: .junk :: .junk :: .junk :: .junk :: []), []⟩) (fun (zz : Nat) => zz ≤ (osl l).length ∧ anyI (wdBad roll l) zz = false) (fun (zz : Nat) => (osl l).length - zz) (0) ?hI3 (Fgt.head (Nat.le_refl _) [true, true, false, false, false, true] ?hT3 ?hH3) ?hB3
  case hT3 => first | (simp (disch := omega) only [hds, liveT, cleanAV, cleanCell, clean1, cleanBlk, reduceIte, Int.reduceSub, Int.reduceAdd, Int.reduceNeg]; done) | rfl
  case hH3 => first | (simp (disch := omega) only [hds, liveT, cleanAV, cleanCell, clean1, cleanBlk, reduceIte, Int.reduceSub, Int.reduceAdd, Int.reduceNeg]; done) | rfl
  · exact ⟨Nat.zero_le _, rfl⟩
  rintro i ⟨hi, hs⟩
  by_cases him : i = (osl l).length
  · rw [← him, hs]
    repeat (first | (with_reducible first | refine Way.imp ?_ | refine blk_o rfl ?_) | ((with_reducible refine WayR.imp (fun K hK => ?_)); simp (disch := first | omega | (simp only [dls]; omega)) only [std, reduceIte, reduceCtorEq, Int.reduceToNat, Nat.reduceAdd, Nat.reduceSub, Nat.reduceMul, Int.reduceAdd, Int.reduceSub, Int.reduceMul, Int.reduceNeg, fU]; subst hK))
    exact ⟨_, rfl, rfl⟩
  have hlt : i < (osl l).length := by omega
  have hb : wdBad roll l i = (decide ((osl l)[i] < 1) || decide (roll < (osl l)[i])) := by unfold wdBad badW; rw [iAt_in hlt]
  have htrue : wdBad roll l i = true → anyI (wdBad roll l) (osl l).length = true := fun h => by
    unfold anyI
    rw [List.any_eq_true]
    exact ⟨i, List.mem_range.2 hlt, h⟩
  by_cases c1 : (osl l)[i] < 1
  · rw [htrue (by rw [hb, decide_eq_true c1]; rfl)]
    repeat (first | (with_reducible first | refine Way.imp ?_ | refine blk_o rfl ?_) | ((with_reducible refine WayR.imp (fun K hK => ?_)); simp (disch := first | omega | (simp only [dls]; omega)) only [std, reduceIte, reduceCtorEq, Int.reduceToNat, Nat.reduceAdd, Nat.reduceSub, Nat.reduceMul, Int.reduceAdd, Int.reduceSub, Int.reduceMul, Int.reduceNeg, fU, fI]; subst hK))
    exact ⟨_, rfl, rfl⟩
  by_cases c2 : roll < (osl l)[i]
  · rw [htrue (by rw [hb, decide_eq_true c2, Bool.or_true])]
    repeat (first | (with_reducible first | refine Way.imp ?_ | refine blk_o rfl ?_) | ((with_reducible refine WayR.imp (fun K hK => ?_)); simp (disch := first | omega | (simp only [dls]; omega)) only [std, reduceIte, reduceCtorEq, Int.reduceToNat, Nat.reduceAdd, Nat.reduceSub, Nat.reduceMul, Int.reduceAdd, Int.reduceSub, Int.reduceMul, Int.reduceNeg, fU, fI]; subst hK))
    exact ⟨_, rfl, rfl⟩
  rw [decide_eq_false c1, decide_eq_false c2] at hb
  repeat (first | (with_reducible first | refine Way.imp ?_ | refine blk_o rfl ?_) | ((with_reducible refine WayR.imp (fun K hK => ?_)); simp (disch := first | omega | (simp only [dls]; omega)) only [std, reduceIte, reduceCtorEq, Int.reduceToNat, Nat.reduceAdd, Nat.reduceSub, Nat.reduceMul, Int.reduceAdd, Int.reduceSub, Int.reduceMul, Int.reduceNeg, fU, fI]; subst hK))
  refine ⟨(i + 1), ?hI4, ?hM4, Fgt.head (Nat.le_refl _) [true, true, false, false, false, true] ?hT4 ?hH4⟩
  case hT4 => first | (simp (disch := omega) only [hds, liveT, cleanAV, cleanCell, clean1, cleanBlk, reduceIte, Int.reduceSub, Int.reduceAdd, Int.reduceNeg]; done) | rfl
  case hH4 => first | (simp (disch := omega) only [hds, liveT, cleanAV, cleanCell, clean1, cleanBlk, reduceIte, Int.reduceSub, Int.reduceAdd, Int.reduceNeg]; done) | rfl
  · exact ⟨Nat.succ_le_of_lt hlt, by rw [anyI_succ, hs, hb]; rfl⟩
  · show (osl l).length - (i + 1) < (osl l).length - i; omega

/-! ### how wide a set is -/

def wideL (l : WI) (ks : List Nat) : Int := ks.foldl (fun s k => s + iAt l k) 0
theorem wideL_snoc (l : WI) (ks : List Nat) (k : Nat) : wideL l (ks ++ [k]) = wideL l ks + iAt l k := by unfold wideL; rw [List.foldl_append]; rfl
def wideN (l : WI) (n : Nat) : Int := wideL l (itemsL n)
theorem items_count (n : Nat) : (itemsL n).length ≤ 12 := by
  have := List.length_filter_le (bitN n) (List.range 12)
  rw [List.length_range] at this
  exact this

abbrev c97_k1 : CC := (.seq (.reg [⟨(some 16), none, (.load 1 false (.tmp 5))⟩, ⟨(some 4), none, (.mv (.tmp 16))⟩]) .ret)
abbrev c97_b1 : CC := (.block 1 (.reg [⟨(some 10), none, (.load 1 false (.tmp 5))⟩, ⟨(some 11), none, (.load 1 false (.tmp 2))⟩, ⟨(some 12), none, (.mv (.tmp 6))⟩, ⟨(some 13), none, (.iaddr 1 none (.tmp 11) (.tmp 12))⟩, ⟨(some 14), none, (.load 1 false (.tmp 13))⟩, ⟨(some 15), none, (.bin .add (.tmp 10) (.tmp 14))⟩, ⟨none, none, (.store 1 (.tmp 5) (.tmp 15))⟩]))
abbrev c97 : CC := (.seq (.reg [⟨(some 2), none, (.box 34 (.tmp 0))⟩, ⟨(some 4), none, (.mv (.const (.int .i64 (0))))⟩]) (.seq (.reg [⟨(some 5), none, (.new 3 [(.int .i64 (0))])⟩, ⟨none, none, (.store 1 (.tmp 5) (.const (.int .i64 (0))))⟩]) (.seq (.seq (.reg [⟨(some 7), none, (.mv (.tmp 1))⟩, ⟨(some 8), none, (.callf (.func 72) [(.tmp 7)])⟩]) (.block 0 (.rf (.tmp 8) [9] [(6, 9)] c97_b1))) c97_k1)))
theorem cc97 : ccode Tryd.prog [] (Tryd.f97.body.getD .skip) = some c97 := by kernel_rfl
theorem body97 : Tryd.f97.body = some (Tryd.f97.body.getD .skip) := rfl

theorem wide_C (roll : Int) (l : WI) (n : Nat) (h : MayOk roll l) (hn : n < 2 ^ (osl l).length) : PureC Tryd.prog 97 [aWs l, aI n] (.ret (aI (wideN l n))) := by
  have hit0 := items_C n
  have hl := h.len
  have h4096 : n < 4096 := Nat.lt_of_lt_of_le hn (Nat.pow_le_pow_right (n := 2) (by decide) hl)
  have hlt := items_below hn
  have hit := items_iter n (osl l).length h4096 hlt
  have hcnt := items_count n
  have hfv := finK_val hlt
  have hfl : (finK (osl l).length (itemsL n)).length = (itemsL n).length := by rw [← List.length_map (f := Fin.val), hfv]
  unfold wideN
  have h0 : wideL l [] = 0 := rfl
  refine pureC_of (rs := [(RV.tmp 4)]) Tryd.func97 (fun a w => Tryd.call97 a w) body97 cc97 (by kernel_rfl) ?_
  rw [Tryd.ntmps97]
  simp only [frs, Nat.reduceAdd, Nat.reduceSub]
  repeat (first | (with_reducible first | refine Way.imp ?_ | refine blk_o rfl ?_) | ((with_reducible refine WayR.imp (fun K hK => ?_)); simp (disch := first | omega | (simp only [dls]; omega)) only [std, reduceIte, reduceCtorEq, Int.reduceToNat, Nat.reduceAdd, Nat.reduceSub, Nat.reduceMul, Int.reduceAdd, Int.reduceSub, Int.reduceMul, Int.reduceNeg, fU]; subst hK) | refine zcA (hit0) rfl rfl rfl ?_)
  refine awp_fold hit rfl (by simp [closedCell]) (fun (ks : List Nat) => [⟨0, 34, 1, [[.c (encSl 1 fI l)]], true, true⟩, ⟨0, 3, 1, [[.c (.val (.int .i64 (wideL l ks)))]], true, true⟩]) (fun ks k => ks ++ [k.1]) (fun i ks => ks.length = i ∧ 0 ≤ wideL l ks ∧ wideL l ks ≤ (i : Int) * 1048576) [] (by rw [h0]) ⟨rfl, by rw [h0]; omega, by rw [h0]; omega⟩ ?_ ?_
  · intro i ks k hi hks
    obtain ⟨k, hk⟩ := k
    obtain ⟨k1, k2, k3⟩ := hks
    obtain ⟨w1, w2⟩ := h.wid k hk
    have hr := h.rl
    have hsn := wideL_snoc l ks k
    rw [iAt_in hk] at w1 w2 hsn
    rw [hfl] at hi
    simp only [mvT, setps, rnd, Nat.reduceAdd]
    repeat (first | (with_reducible first | refine Way.imp ?_ | refine blk_o rfl ?_) | ((with_reducible refine WayR.imp (fun K hK => ?_)); simp (disch := first | omega | (simp only [dls]; omega)) only [std, reduceIte, reduceCtorEq, Int.reduceToNat, Nat.reduceAdd, Nat.reduceSub, Nat.reduceMul, Int.reduceAdd, Int.reduceSub, Int.reduceMul, Int.reduceNeg, fU, fI]; subst hK))
    refine ⟨_, ⟨rfl, ?hI, ?hJ⟩, _, Fgt.head (Nat.le_refl _) [] rfl ?hH⟩
    case hI => rw [List.length_append]; exact congrArg (· + 1) k1
    case hJ => rw [hsn]; omega
    case hH => rw [hsn]; first | (simp (disch := omega) only [hds, liveT, cleanAV, cleanCell, clean1, cleanBlk, reduceIte]; done) | rfl
  · intro _
    have hfold : ∀ (l' : List (Fin (osl l).length)) (a : List Nat), l'.foldl (fun ks k => ks ++ [k.1]) a = a ++ l'.map Fin.val := by
      intro l'
      induction l' with
      | nil => intro a; simp
      | cons x l' ih => intro a; rw [List.foldl_cons, ih, List.map_cons, List.append_assoc]; rfl
    rw [hfold, List.nil_append, hfv]
    repeat (first | (with_reducible first | refine Way.imp ?_ | refine blk_o rfl ?_) | ((with_reducible refine WayR.imp (fun K hK => ?_)); simp (disch := first | omega | (simp only [dls]; omega)) only [std, reduceIte, reduceCtorEq, Int.reduceToNat, Nat.reduceAdd, Nat.reduceSub, Nat.reduceMul, Int.reduceAdd, Int.reduceSub, Int.reduceMul, Int.reduceNeg, fU]; subst hK))
    exact ⟨_, rfl, rfl⟩

end Go.Proofs.YtdhkdnmefeeclaaDoor
