/- Walks of offcutref17: In. -/
import Derived.WalkKit
import Derived.LoopTactic
import Derived.RangeFuncBox
import Derived.RangeFuncBound
import Derived.Shelf.Abstract
import Derived.OwnWalkIn
import Derived.TacticsInMore
import Derived.LoopNIn
import Derived.LoopIn
import Derived.Test.YtdhkdnmefeeclaaDoorA6
import Derived.Test.YtdhkdnmefeeclaaDoorB0
import Derived.Test.YtdhkdnmefeeclaaDoorC1
import Derived.Test.YtdhkdnmefeeclaaDoorVD
set_option linter.unusedSimpArgs false
set_option linter.unusedVariables false
set_option linter.unnecessarySimpa false
set_option linter.unusedSimpArgs false
set_option linter.unusedVariables false
set_option maxRecDepth 100000
set_option maxHeartbeats 4000000
namespace Go.Proofs.YtdhkdnmefeeclaaDoor
open Go Go.Am Go.Proofs Go.RowKit Go.Off

abbrev WI := Option (List Int)
abbrev aWs (l : WI) : AV := .one (.c (encSl 1 fI l))
theorem shl_one : ∀ k, k ≤ 12 → shlI .i64 1 k = ((2 ^ k : Nat) : Int) := by decide
theorem pow_4096 {k : Nat} (h : k ≤ 12) : 2 ^ k ≤ 4096 := Nat.pow_le_pow_right (n := 2) (by decide) h
theorem tdiv_two (n : Nat) : Int.tdiv ((n : Nat) : Int) 2 = ((n / 2 : Nat) : Int) := by rw [Int.tdiv_eq_ediv_of_nonneg (by omega)]; rfl
theorem tmod_two (n : Nat) : Int.tmod ((n : Nat) : Int) 2 = ((n % 2 : Nat) : Int) := by rw [Int.tmod_eq_emod_of_nonneg (by omega)]; rfl
theorem half_le (n k : Nat) : n / 2 ^ k ≤ n := Nat.div_le_self _ _

abbrev c37_k1 : CC := (.seq (.reg [⟨(some 13), none, (.mv (.tmp 0))⟩, ⟨(some 14), none, (.bin .rem (.tmp 13) (.const (.int .i64 (2))))⟩, ⟨(some 15), none, (.bin .eql (.tmp 14) (.const (.int .i64 (1))))⟩, ⟨(some 4), none, (.mv (.tmp 15))⟩]) .ret)
abbrev c37_b1 : CC := (.seq (.seq (.reg [⟨(some 6), none, (.mv (.tmp 5))⟩, ⟨(some 7), none, (.mv (.tmp 1))⟩, ⟨(some 8), none, (.bin .lss (.tmp 6) (.tmp 7))⟩]) (.cond (.tmp 8) .skip (.exit 0))) (.seq (.block 1 (.reg [⟨(some 11), none, (.mv (.tmp 0))⟩, ⟨(some 12), none, (.bin .quo (.tmp 11) (.const (.int .i64 (2))))⟩, ⟨(some 0), none, (.mv (.tmp 12))⟩])) (.reg [⟨(some 9), none, (.mv (.tmp 5))⟩, ⟨(some 10), none, (.bin .add (.tmp 9) (.const (.int .i64 (1))))⟩, ⟨(some 5), none, (.mv (.tmp 10))⟩])))
abbrev c37 : CC := (.seq (.reg [⟨(some 4), none, (.mv (.const (.bool false)))⟩]) (.seq (.seq (.reg [⟨(some 5), none, (.mv (.const (.int .i64 (0))))⟩]) (.block 0 (.loop c37_b1))) c37_k1))
theorem cc37 : ccode Tryd.prog [] (Tryd.f37.body.getD .skip) = some c37 := by kernel_rfl
theorem body37 : Tryd.f37.body = some (Tryd.f37.body.getD .skip) := rfl

theorem in_C (n k : Nat) (hn : n < 9223372036854775808) (hk : k ≤ 1000) : PureC Tryd.prog 37 [aI n, aI k] (.ret (aB (bitN n k))) := by
  have h0 : n / 2 ^ 0 = n := by rw [Nat.pow_zero, Nat.div_one]
  refine pureC_of (rs := [(RV.tmp 4)]) Tryd.func37 (fun a w => Tryd.call37 a w) body37 cc37 (by kernel_rfl) ?_
  rw [Tryd.ntmps37]
  simp only [frs, Nat.reduceAdd, Nat.reduceSub]
  repeat (first | (with_reducible first | refine Way.imp ?_ | refine blk_o rfl ?_) | ((with_reducible refine WayR.imp (fun K hK => ?_)); simp (disch := first | omega | (simp only [dls]; omega)) only [std, reduceIte, reduceCtorEq, Int.reduceToNat, Nat.reduceAdd, Nat.reduceSub, Nat.reduceMul, Int.reduceAdd, Int.reduceSub, Int.reduceMul, Int.reduceNeg, fU]; subst hK))
  refine awp_loop (fun (zz : Nat) => ⟨(aI (n / 2 ^ zz : Nat) :: aI k :: .junk :: .junk :: .junk :: aI zz :: .junk :: .junk :: .junk :: .junk :: .junk :: .junk :: .junk :: .junk :: .junk :: .junk :: []), []⟩) (fun (zz : Nat) => zz ≤ k) (fun (zz : Nat) => k - zz) (0) ?hI1 (Fgt.head (Nat.le_refl _) [true, true, false, false, false, true] ?hT1 ?hH1) ?hB1
  case hT1 => first | (simp (disch := omega) only [hds, liveT, cleanAV, cleanCell, clean1, cleanBlk, reduceIte, Int.reduceSub, Int.reduceAdd, Int.reduceNeg, h0]; done) | rfl
  case hH1 => first | (simp (disch := omega) only [hds, liveT, cleanAV, cleanCell, clean1, cleanBlk, reduceIte, Int.reduceSub, Int.reduceAdd, Int.reduceNeg, h0]; done) | rfl
  · exact Nat.zero_le _
  rintro i hi
  have hle := half_le n i
  have hp := half_pow n i
  unfold bitN
  by_cases him : i = k
  · rw [him] at hle ⊢
    generalize n / 2 ^ k = x at *
    have hm2 : x % 2 < 2 := Nat.mod_lt _ (by decide)
    by_cases h : x % 2 = 1
    · rw [decide_eq_true h]
      repeat (first | (with_reducible first | refine Way.imp ?_ | refine blk_o rfl ?_) | ((with_reducible refine WayR.imp (fun K hK => ?_)); simp (disch := first | omega | (simp only [dls]; omega)) only [std, reduceIte, reduceCtorEq, Int.reduceToNat, Nat.reduceAdd, Nat.reduceSub, Nat.reduceMul, Int.reduceAdd, Int.reduceSub, Int.reduceMul, Int.reduceNeg, fU, tmod_two, h]; subst hK))
      exact ⟨_, rfl, rfl⟩
    · rw [decide_eq_false h]
      have h0' : x % 2 = 0 := by omega
      repeat (first | (with_reducible first | refine Way.imp ?_ | refine blk_o rfl ?_) | ((with_reducible refine WayR.imp (fun K hK => ?_)); simp (disch := first | omega | (simp only [dls]; omega)) only [std, reduceIte, reduceCtorEq, Int.reduceToNat, Nat.reduceAdd, Nat.reduceSub, Nat.reduceMul, Int.reduceAdd, Int.reduceSub, Int.reduceMul, Int.reduceNeg, fU, tmod_two, h0']; subst hK))
      exact ⟨_, rfl, rfl⟩
  · have hlt : i < k := by omega
    generalize n / 2 ^ i = x at *
    repeat (first | (with_reducible first | refine Way.imp ?_ | refine blk_o rfl ?_) | ((with_reducible refine WayR.imp (fun K hK => ?_)); simp (disch := first | omega | (simp only [dls]; omega)) only [std, reduceIte, reduceCtorEq, Int.reduceToNat, Nat.reduceAdd, Nat.reduceSub, Nat.reduceMul, Int.reduceAdd, Int.reduceSub, Int.reduceMul, Int.reduceNeg, fU, tdiv_two]; subst hK))
    refine ⟨(i + 1), ?hI2, ?hM2, Fgt.head (Nat.le_refl _) [true, true, false, false, false, true] ?hT2 ?hH2⟩
    case hT2 => first | (simp (disch := omega) only [hds, liveT, cleanAV, cleanCell, clean1, cleanBlk, reduceIte, Int.reduceSub, Int.reduceAdd, Int.reduceNeg, hp]; done) | rfl
    case hH2 => first | (simp (disch := omega) only [hds, liveT, cleanAV, cleanCell, clean1, cleanBlk, reduceIte, Int.reduceSub, Int.reduceAdd, Int.reduceNeg, hp]; done) | rfl
    · omega
    · show k - (i + 1) < k - i; omega

end Go.Proofs.YtdhkdnmefeeclaaDoor
set_option linter.unusedSimpArgs false
set_option linter.unusedVariables false
set_option maxRecDepth 100000
set_option maxHeartbeats 4000000
namespace Go.Proofs.YtdhkdnmefeeclaaDoor
open Go Go.Am Go.Proofs Go.RowKit Go.Off

abbrev aU64 (z : Int) : AV := .one (.c (.val (.int .u64 z)))
def tabI : List Int := [0, 1, 56, 2, 57, 49, 28, 3, 61, 58, 42, 50, 38, 29, 17, 4, 62, 47, 59, 36, 45, 43, 51, 22, 53, 39, 33, 30, 24, 18, 12, 5, 63, 55, 48, 27, 60, 41, 37, 16, 46, 35, 44, 21, 52, 32, 23, 11, 54, 26, 40, 15, 34, 20, 31, 10, 25, 14, 19, 9, 13, 8, 7, 6]
theorem tab64_eq : tab64 = tabI.map (Value.int .u8) := rfl
def tzI (n : Nat) : Nat := (IntKind.u64.wrap (bits BinOp.and IntKind.u64 ((n : Nat) : Int) (IntKind.u64.wrap (-((n : Nat) : Int))) * 285870213051353865) / 288230376151711744).toNat
theorem tz_tab : ∀ n, n < 4096 → n ≠ 0 → tabI[tzI n]? = some ((tzN n : Nat) : Int) := all4096 (by decide +kernel)
theorem tzN_lt {n : Nat} (h : n < 4096) (h0 : n ≠ 0) : tzN n < 12 := (tz_index n h h0).1
theorem wrap_top (x : Int) : 0 ≤ IntKind.u64.wrap x / 288230376151711744 ∧ IntKind.u64.wrap x / 288230376151711744 < 64 := by
  have h : 0 ≤ IntKind.u64.wrap x ∧ IntKind.u64.wrap x < 18446744073709551616 := by
    have e : IntKind.u64.wrap x = x % 18446744073709551616 := by simp [IntKind.wrap, IntKind.bits, IntKind.signed]
    omega
  omega
set_option maxRecDepth 1000000 in
theorem tz64_walk (n : Nat) (w : World) (h0 : n ≠ 0) (hn : n < 4096) (hT : ∀ j (v : Value), tab64[j]? = some v → w.cell? ⟨1, j, none⟩ = some v) :
    Calls Tryd.prog 121 #[.int .u64 (n : Int)] w fun e w' => e = .returned (.int .i64 (tzN n : Int)) ∧ w' = w := by
  have hc : w.cell? ⟨1, (IntKind.u64.wrap (bits BinOp.and IntKind.u64 ((n : Nat) : Int) (IntKind.u64.wrap (-((n : Nat) : Int))) * 285870213051353865) / 288230376151711744).toNat, none⟩ = some (.int .u8 ((tzN n : Nat) : Int)) := hT _ _ (by
    show tab64[tzI n]? = _
    rw [tab64_eq, List.getElem?_map, tz_tab n hn h0]; rfl)
  have hl := tzN_lt hn h0
  have hb := wrap_top (bits BinOp.and IntKind.u64 ((n : Nat) : Int) (IntKind.u64.wrap (-((n : Nat) : Int))) * 285870213051353865)
  go_enter Tryd.func121, Tryd.ntmps121
  go_wp2
  go_ret
  exact ⟨rfl, rfl⟩

theorem tz64_C (n : Nat) (h0 : n ≠ 0) (hn : n < 4096) : PureC Tryd.prog 121 [aU64 n] (.ret (aI (tzN n))) := by
  refine ⟨fun a w => Tryd.call121 a w, fun w M vals hM hp => ?_⟩
  obtain ⟨v0, q0, e0, p0, hq⟩ := PW.inv hp
  obtain rfl := e0
  obtain rfl : q0 = [] := List.length_eq_zero_iff.1 hq.1.symm
  obtain rfl : v0 = .int .u64 ((n : Nat) : Int) := p0.val
  refine (tz64_walk n w h0 hn (fun j v hj => (hM.2 1 tab64 rfl).2 j v hj)).mono fun e w' ⟨he, hw⟩ => ?_
  subst hw
  exact ⟨_, he, Below.refl _ _, .one _ _ (.c _ _ (.val _ rfl))⟩

abbrev c102 : CC := (.seq (.reg [⟨(some 2), none, (.mv (.const (.int .i64 (0))))⟩]) (.seq (.cond (.const (.bool false)) (.seq (.reg [⟨(some 3), none, (.mv (.tmp 0))⟩, ⟨(some 4), none, (.conv .u32 (.tmp 3))⟩, ⟨(some 5), none, (.callf (.func 120) [(.tmp 4)])⟩, ⟨(some 2), none, (.mv (.tmp 5))⟩]) .ret) .skip) (.seq (.reg [⟨(some 6), none, (.mv (.tmp 0))⟩, ⟨(some 7), none, (.callf (.func 121) [(.tmp 6)])⟩, ⟨(some 2), none, (.mv (.tmp 7))⟩]) .ret)))
theorem cc102 : ccode Tryd.prog [] (Tryd.f102.body.getD .skip) = some c102 := by kernel_rfl
theorem body102 : Tryd.f102.body = some (Tryd.f102.body.getD .skip) := rfl

theorem tz_C (n : Nat) (h0 : n ≠ 0) (hn : n < 4096) : PureC Tryd.prog 102 [aU64 n] (.ret (aI (tzN n))) := by
  have h := tz64_C n h0 hn
  refine pureC_of (rs := [(RV.tmp 2)]) Tryd.func102 (fun a w => Tryd.call102 a w) body102 cc102 (by kernel_rfl) ?_
  rw [Tryd.ntmps102]
  simp only [frs, Nat.reduceAdd, Nat.reduceSub]
  repeat (first | (with_reducible first | refine Way.imp ?_ | refine blk_o rfl ?_) | ((with_reducible refine WayR.imp (fun K hK => ?_)); simp (disch := first | omega | (simp only [dls]; omega)) only [std, reduceIte, reduceCtorEq, Int.reduceToNat, Nat.reduceAdd, Nat.reduceSub, Nat.reduceMul, Int.reduceAdd, Int.reduceSub, Int.reduceMul, Int.reduceNeg, fU]; subst hK) | refine zcA (h) rfl rfl rfl ?_)
  exact ⟨_, rfl, rfl⟩

end Go.Proofs.YtdhkdnmefeeclaaDoor
set_option linter.unusedSimpArgs false
set_option linter.unusedVariables false
set_option maxRecDepth 100000
set_option maxHeartbeats 4000000
namespace Go.Proofs.YtdhkdnmefeeclaaDoor
open Go Go.Am Go.Proofs Go.RowKit Go.Shelf Go.Off

attribute [local go_sem] Oper.semAt_some

theorem bits_nxt : ∀ m, m < 4096 → m ≠ 0 → bits BinOp.and IntKind.i64 ((m : Nat) : Int) (((m : Nat) : Int) - 1) = ((nxtN m : Nat) : Int) := all4096 (by decide +kernel)
theorem kp_grow {w A B : World} {bad : Nat → Prop} (h : A.grownBy B none) : KpOf w bad A B := ⟨h.size, fun g hg hb cs t o hc => (h.block g (Array.getElem?_eq_some_iff.1 hc).1 (by simp)).trans hc⟩
theorem kp_trans {w A B C : World} {bad : Nat → Prop} (h : KpOf w bad A B) (k : KpOf w bad B C) : KpOf w bad A C := ⟨Nat.le_trans h.1 k.1, fun g hg hb cs t o hc => k.2 g hg hb cs t o (h.2 g hg hb cs t o hc)⟩

set_option maxRecDepth 100000 in
set_option maxHeartbeats 4000000 in
theorem items1_in (F : Fence) (hF : F.fn 101) (hF2 : F.fn 102) (hro : F.round = none) (n : Nat) (hn : 1 ≤ n) (l Bs os set : Nat) (hset : set < 4096) (w : World) (bad : Nat → Prop) (J Jx : List Nat → World → Prop) (W : World)
    (hY : ∀ pre (x : Nat) W, x ∈ itemsL set → J pre W → pre.length < (itemsL set).length → YieldAt F (n - 1) Tryd.prog l #[.int .i64 (x : Int)] W fun e W' =>
      ∃ b, e = .returned (.bool b) ∧ (b = true → J (pre ++ [x]) W' ∧ KpOf w bad W W') ∧ (b = false → Jx (pre ++ [x]) W'))
    (hJd : ∀ pre W W', J pre W → W.grownBy W' none → J pre W')
    (hT : ∀ (m : Nat) wr, m ≠ 0 → m < 4096 → KpOf w bad W wr → CallsIn F (n - 1) Tryd.prog 102 #[.int .u64 (m : Int)] wr fun e W' => e = .returned (.int .i64 (tzN m : Int)) ∧ wr.grownBy W' none)
    (hBs : W.cell? ⟨Bs, os, none⟩ = some (.int .i64 (set : Int))) (h0 : J [] W) :
    CallsIn F n Tryd.prog 101 #[.func (.yield l) #[] #[], .pointer (some ⟨Bs, os, none⟩)] W fun e W' => (∃ v, e = .returned v) ∧
      ((∃ ys, ys = itemsL set ∧ J ys W') ∨ (∃ pre, True ∧ Jx pre W')) := by
  refine callsIn_of_wp Tryd.func101 rfl hF ?_ hro
  simp only [Tryd.ntmps101, List.size_toArray, List.length_cons, List.length_nil, Nat.reduceAdd, Nat.reduceSub, Array.replicate_succ, Array.replicate_zero, List.push_toArray, List.append_toArray, List.nil_append, List.cons_append]
  gi_wp2
  gi_loopw [3] (fun v3 wr => ∃ (m : Nat) (pre : List Nat), m < 4096 ∧ v3 = .int .i64 (m : Int) ∧ pre ++ itemsL m = itemsL set ∧ J pre wr ∧ KpOf w bad W wr) (fun i _ => (intOf i).toNat)
  case atStart => exact ⟨set, [], hset, rfl, rfl, h0, ⟨Nat.le_refl _, fun _ _ _ _ _ _ h => h⟩⟩
  case round =>
    obtain ⟨m, pre, hm, rfl, hpre, hJs, hnx⟩ := hrel
    by_cases hz : m = 0
    · subst hz
      gi_wp2
      go_end0
      rw [items_zero, List.append_nil] at hpre
      exact ⟨⟨_, rfl⟩, .inl ⟨_, hpre, hJs⟩⟩
    · obtain ⟨hst, hlt⟩ := items_step m hm hz
      have hbn := bits_nxt m hm hz
      have hlen : pre.length < (itemsL set).length := by rw [← hpre, hst, List.length_append, List.length_cons]; omega
      gi_wp2
      refine (hT m _ hz hm hnx).mono ?_
      rintro e W1 ⟨rfl, hg1⟩
      have hJ1 := hJd _ _ _ hJs hg1
      have hk1 : KpOf w bad W W1 := kp_trans hnx (kp_grow hg1)
      obtain ⟨fn, tmps, assign, body, hy, hR⟩ := hY _ (tzN m) W1 (by rw [← hpre, hst]; simp) hJ1 hlen
      gi_wp2
      refine hR.mono ?_
      rintro e W3 ⟨b, rfl, hbt, hbf⟩
      cases b
      · gi_wp2
        refine bodyPost_ret (results_none rfl _ _ _) rfl ?_
        exact ⟨⟨_, rfl⟩, .inr ⟨_, trivial, hbf (by simp)⟩⟩
      · obtain ⟨hJ4, hk4⟩ := hbt rfl
        gi_wp2
        go_roundw
        case rel => exact ⟨nxtN m, pre ++ [tzN m], by omega, by simp, by rw [List.append_assoc, List.singleton_append, ← hst, hpre], hJ4, kp_trans hk1 hk4⟩
        case measure => simp [intOf]; omega

abbrev itAV {n : Nat} (x : Fin n) : List AV := [aI (x.1 : Int)]
theorem items_iter (set N : Nat) (hset : set < 4096) (hN : ∀ k ∈ itemsL set, k < N) :
    IterC Tryd.prog 101 [.iptr [.val (.int .i64 (set : Int))]] (itAV (n := N)) 1 (fun xs => xs = finK N (itemsL set)) (fun _ => True) (finK N (itemsL set)).length := by
  refine ⟨fun a w => Tryd.call101 a w, fun k => rfl, fun w bad vs hbadG hvs => ?_⟩
  obtain ⟨hbad, hG⟩ := hbadG
  obtain ⟨v0, q0, rfl, hv0, hvs⟩ := PW.inv hvs
  obtain rfl : q0 = [] := List.eq_nil_of_length_eq_zero hvs.1.symm
  cases hv0 with
  | iptr _ Bs os fa hBn hBl hca hva =>
  have cell0 := hca 0 _ rfl
  have cr0 := hva 0 _ rfl
  clear hca hva
  generalize fa 0 = s0 at cell0 cr0
  cases cr0
  refine ⟨fun x => [.int .i64 (x.1 : Int)], fun k => .cons (.one _ _ (.c _ _ (.val _ rfl))) .nil, fun n => ?_⟩
  intro ll J Jx W hW hJ hJx hY h0
  have hAW0 : W.cell? ⟨Bs, os, none⟩ = _ := (hW.cell (p := ⟨Bs, os, none⟩) hBl).trans cell0
  have hJd : ∀ pre A B, J pre A → A.grownBy B none → J pre B := fun pre A B hj hgr => hJ pre A B none hj hgr (by simp)
  have e1 : 1 ≤ n + 1 := by omega
  have hlL : (finK N (itemsL set)).length = (itemsL set).length := by
    rw [← List.length_map (f := Fin.val), finK_val hN]
  refine callsIn_n ((items1_in (Wd none) trivial trivial rfl (n + 1) e1 ll Bs os set hset w bad (fun pre W => ∃ p : List (Fin N), p.map Fin.val = pre ∧ J p W) (fun pre W => ∃ p : List (Fin N), Jx p W) W (fun pre x W1 hx hj hl => ?_)
    (fun pre A B hj hgr => by obtain ⟨p, hp, hj⟩ := hj; exact ⟨p, hp, hJd _ _ _ hj hgr⟩) (fun m wr hm hm2 hkp => ?_) hAW0 ⟨[], rfl, h0⟩).mono ?_) n
  rotate_left
  rotate_left
  · rintro e W' ⟨he, hj⟩
    refine ⟨he, ?_⟩
    rcases hj with ⟨ys, hys, p, hp, hj⟩ | ⟨pre, _, p, hj⟩
    · refine .inl ⟨p, ?_, hj⟩
      show p = finK N (itemsL set)
      rw [← hys, ← hp, finK_map]
    · exact .inr ⟨p, trivial, hj⟩
  · obtain ⟨p, hp, hj⟩ := hj
    have hpl : p.length = pre.length := by rw [← hp, List.length_map]
    refine (yieldAt_alt (hY p ⟨x, hN x hx⟩ W1 hj (by rw [hlL, hpl]; exact hl)) _).mono ?_
    rintro e W' ⟨b, he, h1, h2⟩
    exact ⟨b, he, fun hb => ⟨⟨p ++ [⟨x, hN x hx⟩], by rw [List.map_append, hp]; rfl, (h1 hb).1⟩, (h1 hb).2⟩, fun hb => ⟨_, h2 hb⟩⟩
  have hGr : GB bad wr.heap.size wr := by
    intro g t ht
    obtain ⟨⟨h1, hnb⟩, h2⟩ := hG g t ht
    have hsz : w.heap.size ≤ wr.heap.size := Nat.le_trans hW.size hkp.1
    refine ⟨⟨by omega, hnb⟩, fun j v hj => ?_⟩
    have hc := h2 j v hj
    have hcW : W.cell? ⟨g, j, none⟩ = some v := (hW.cell (p := ⟨g, j, none⟩) h1).trans hc
    exact kp_cell hkp h1 hnb hcW
  have hc := (tz_C m hm hm2).2 wr bad [.int .u64 (m : Int)] ⟨fun g hg => by have := hbad g hg; have := hW.size; have := hkp.1; omega, hGr⟩ (.cons (.one _ _ (.c _ _ (.val _ rfl))) .nil)
  refine (callsIn_wd (hc.mono ?_))
  rintro e W' ⟨v, rfl, hb, hr⟩
  refine ⟨?_, below_grown hb⟩
  congr 1
  exact hr.val

abbrev c72 : CC := (.seq (.reg [⟨(some 1), none, (.box 3 (.tmp 0))⟩, ⟨(some 2), none, (.mv (.const .nilFunc))⟩]) (.seq (.reg [⟨(some 3), none, (.mkfn 101 [(.tmp 1)])⟩, ⟨(some 2), none, (.mv (.tmp 3))⟩]) .ret))
theorem cc72 : ccode Tryd.prog [] (Tryd.f72.body.getD .skip) = some c72 := by kernel_rfl
theorem body72 : Tryd.f72.body = some (Tryd.f72.body.getD .skip) := rfl

theorem items_C (n : Int) : PureC Tryd.prog 72 [aI n] (.ret (.one (.fn 101 [.iptr [.val (.int .i64 n)]]))) := by
  refine pureC_of (rs := [(RV.tmp 2)]) Tryd.func72 (fun a w => Tryd.call72 a w) body72 cc72 (by kernel_rfl) ?_
  rw [Tryd.ntmps72]
  simp only [frs, Nat.reduceAdd, Nat.reduceSub]
  repeat (first | (with_reducible first | refine Way.imp ?_ | refine blk_o rfl ?_) | ((with_reducible refine WayR.imp (fun K hK => ?_)); simp (disch := first | omega | (simp only [dls]; omega)) only [std, reduceIte, reduceCtorEq, Int.reduceToNat, Nat.reduceAdd, Nat.reduceSub, Nat.reduceMul, Int.reduceAdd, Int.reduceSub, Int.reduceMul, Int.reduceNeg, fU]; subst hK))
  exact ⟨_, rfl, rfl⟩

end Go.Proofs.YtdhkdnmefeeclaaDoor
