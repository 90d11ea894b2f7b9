/- Walks of nat: Small. -/
import Derived.Test.YtdhkdnmefeeclaaDoorB1
import Derived.Test.YtdhkdnmefeeclaaDoorC1
set_option linter.unusedSimpArgs false
set_option linter.unusedVariables false
set_option linter.unnecessarySimpa false
set_option linter.unusedSimpArgs false
set_option linter.unusedVariables false
set_option maxRecDepth 100000
set_option maxHeartbeats 4000000
namespace Go.Proofs.YtdhkdnmefeeclaaDoor
open Go Go.Am Go.Proofs Go.Off

theorem small_or {n d : Nat} (hd : d < 4294967296) : orI .u64 ((n * 4294967296 % 18446744073709551616 : Nat) : Int) (d : Int) = ((n * 4294967296 % 18446744073709551616 + d : Nat) : Int) := by
  rw [orI_u64 (by omega) (by omega)]
  have e2 : n * 4294967296 % 18446744073709551616 = 2 ^ 32 * (n % 4294967296) := by omega
  rw [e2, or_add (by simpa using hd)]

abbrev c103_k1 : CC := (.seq (.reg [⟨(some 21), none, (.load 1 false (.tmp 4))⟩, ⟨(some 2), none, (.mv (.tmp 21))⟩, ⟨(some 3), none, (.mv (.const (.bool true)))⟩]) .ret)
abbrev c103_b1 : CC := (.block 1 (.reg [⟨(some 16), none, (.load 1 false (.tmp 4))⟩, ⟨(some 17), none, (.bin .shl (.tmp 16) (.const (.int .u64 (32))))⟩, ⟨(some 18), none, (.mv (.tmp 6))⟩, ⟨(some 19), none, (.conv .u64 (.tmp 18))⟩, ⟨(some 20), none, (.bin .or (.tmp 17) (.tmp 19))⟩, ⟨none, none, (.store 1 (.tmp 4) (.tmp 20))⟩]))
abbrev c103 : CC := (.seq (.reg [⟨(some 2), none, (.mv (.const (.int .u64 (0))))⟩, ⟨(some 3), none, (.mv (.const (.bool false)))⟩]) (.seq (.reg [⟨(some 7), none, (.mv (.tmp 0))⟩, ⟨(some 8), none, (.callf (.func 90) [(.tmp 7)])⟩, ⟨(some 0), none, (.mv (.tmp 8))⟩]) (.seq (.seq (.reg [⟨(some 9), none, (.mv (.tmp 0))⟩, ⟨(some 10), none, (.len false (.tmp 9))⟩, ⟨(some 11), none, (.bin .gtr (.tmp 10) (.const (.int .i64 (2))))⟩]) (.cond (.tmp 11) (.seq (.reg [⟨(some 2), none, (.mv (.const (.int .u64 (0))))⟩, ⟨(some 3), none, (.mv (.const (.bool false)))⟩]) .ret) .skip)) (.seq (.reg [⟨(some 4), none, (.new 94 [(.int .u64 (0))])⟩, ⟨none, none, (.store 1 (.tmp 4) (.const (.int .u64 (0))))⟩]) (.seq (.seq (.reg [⟨(some 12), none, (.mv (.tmp 0))⟩, ⟨(some 13), none, (.callf (.func 113) [(.tmp 12)])⟩]) (.block 0 (.rf (.tmp 13) [14, 15] [(6, 15)] c103_b1))) c103_k1)))))
theorem cc103 : ccode Tryd.prog [] (Tryd.f103.body.getD .skip) = some c103 := by kernel_rfl
theorem body103 : Tryd.f103.body = some (Tryd.f103.body.getD .skip) := rfl

/-- 'Small': of a number of 64 bits. -/
theorem small_C (a : Row) (ha : (osl a).length ≤ 1000000000) (hlt : a.val < 18446744073709551616) : PureC Tryd.prog 103 [aN a] (.ret (.tup [aU a.val, aB true])) := by
  refine pureC_of (rs := [(RV.tmp 2), (RV.tmp 3)]) Tryd.func103 (fun a w => Tryd.call103 a w) body103 cc103 (by kernel_rfl) ?_
  rw [Tryd.ntmps103]
  simp only [frs, Nat.reduceAdd, Nat.reduceSub]
  have hta := trim_C a (by omega)
  change PureC _ _ _ (.ret (aN (trimR a))) at hta
  have hsa := trimR_ds a
  have hla := digits_len_row a
  rw [← hsa] at hla
  generalize trimR a = s at *
  have hl2 : (osl s).length ≤ 2 := by rw [hsa]; exact digits_len_le (by simpa using hlt)
  have hvs : val (osl s) = a.val := by rw [hsa, val_digits]
  repeat (first | (with_reducible first | refine Way.imp ?_ | refine blk_o rfl ?_) | ((with_reducible refine WayR.imp (fun K hK => ?_)); simp (disch := first | omega | (simp only [dls]; omega)) only [std, reduceIte, reduceCtorEq, Int.reduceToNat, Nat.reduceAdd, Nat.reduceSub, Nat.reduceMul, Int.reduceAdd, Int.reduceSub, Int.reduceMul, Int.reduceNeg, fU]; subst hK) | refine zcA (hta) rfl rfl rfl ?_ | refine zcA (backward_C _) rfl rfl rfl ?_)
  refine awp_fold (back_iter s (by omega)) rfl (by simp [closedCell]) (fun (n : Nat) => [⟨0, 94, 1, [[.c (.val (.int .u64 (n : Int)))]], true, true⟩]) (fun n k => n * 4294967296 % 18446744073709551616 + dgt (osl s) k.1) (fun _ n => n < 18446744073709551616) 0 rfl (by omega) ?_ ?_
  · intro i n k _ hn
    have hd := dgt_lt (osl s) k.1
    rw [show backAV (osl s) k = [aI (k.1 : Int), aU32 (dgt (osl s) k.1 : Nat)] from by rw [dgt_eq _ _ k.2]]
    simp only [mvT, setps, rnd, Nat.reduceAdd]
    have hs := shlI_u64 (n := 32) (m := 4294967296) n (by decide) (by decide)
    have ho := small_or (n := n) hd
    have hp : n * 4294967296 % 18446744073709551616 + dgt (osl s) k.1 < 18446744073709551616 := by omega
    generalize n * 4294967296 % 18446744073709551616 = p at hs ho hp
    repeat (first | (with_reducible first | refine Way.imp ?_ | refine blk_o rfl ?_) | ((with_reducible refine WayR.imp (fun K hK => ?_)); simp (disch := first | omega | (simp only [dls]; omega)) only [std, reduceIte, reduceCtorEq, Int.reduceToNat, Nat.reduceAdd, Nat.reduceSub, Nat.reduceMul, Int.reduceAdd, Int.reduceSub, Int.reduceMul, Int.reduceNeg, fU, hs, ho]; subst hK))
    refine ⟨_, ⟨rfl, ?hI1⟩, _, Fgt.head (Nat.le_refl _) [] rfl ?hH1⟩
    case hH1 => first | (simp (disch := omega) only [hds, liveT, cleanAV, cleanCell, clean1, cleanBlk, reduceIte, Int.reduceSub, Int.reduceAdd, Int.reduceNeg]; done) | rfl
    exact hp
  · intro _
    have hf := foldl_downs (osl s).length (fun n k => n * 4294967296 % 18446744073709551616 + dgt (osl s) k.1) (fun k n => n = val ((osl s).drop k)) 0 (by simp [val]) (fun k b hb => by
      subst hb
      have h1 := val_lt ((osl s).drop (k.1 + 1))
      have h2 : ((osl s).drop (k.1 + 1)).length ≤ 1 := by simp; omega
      have h3 : val ((osl s).drop (k.1 + 1)) < 4294967296 ^ 1 := Nat.lt_of_lt_of_le h1 (Nat.pow_le_pow_right (by decide) h2)
      have h4 := val_drop (osl s) k.1 k.2
      rw [← dgt_eq (osl s) k.1 k.2] at h4
      show _ = val ((osl s).drop k.1)
      rw [h4]
      have hd := dgt_lt (osl s) k.1
      simp at h3
      omega)
    simp only [List.drop_zero, hvs] at hf
    rw [hf]
    repeat (first | (with_reducible first | refine Way.imp ?_ | refine blk_o rfl ?_) | ((with_reducible refine WayR.imp (fun K hK => ?_)); simp (disch := first | omega | (simp only [dls]; omega)) only [std, reduceIte, reduceCtorEq, Int.reduceToNat, Nat.reduceAdd, Nat.reduceSub, Nat.reduceMul, Int.reduceAdd, Int.reduceSub, Int.reduceMul, Int.reduceNeg, fU]; subst hK))
    exact ⟨_, rfl, rfl⟩

abbrev c114_k1 : CC := (.seq (.reg [⟨(some 61), none, (.mv (.tmp 5))⟩, ⟨(some 62), none, (.callf (.func 90) [(.tmp 61)])⟩, ⟨(some 4), none, (.mv (.tmp 62))⟩]) .ret)
abbrev c114_b1 : CC := (.seq (.reg [⟨(some 27), none, (.bin .lss (.tmp 26) (.tmp 25))⟩]) (.seq (.cond (.tmp 27) .skip (.exit 0)) (.seq (.block 1 (.seq (.reg [⟨(some 28), none, (.mv (.tmp 26))⟩, ⟨(some 29), none, (.iaddr 1 none (.tmp 24) (.tmp 26))⟩, ⟨(some 30), none, (.load 1 false (.tmp 29))⟩, ⟨(some 6), none, (.mv (.tmp 28))⟩, ⟨(some 7), none, (.mv (.tmp 30))⟩]) (.seq (.reg [⟨(some 31), none, (.mv (.tmp 7))⟩, ⟨(some 32), none, (.conv .u64 (.tmp 31))⟩, ⟨(some 33), none, (.mv (.tmp 1))⟩, ⟨(some 34), none, (.bin .rem (.tmp 33) (.const (.int .i64 (32))))⟩, ⟨(some 35), none, (.bin .shl (.tmp 32) (.tmp 34))⟩, ⟨(some 8), none, (.mv (.tmp 35))⟩]) (.seq (.reg [⟨(some 36), none, (.mv (.tmp 5))⟩, ⟨(some 37), none, (.mv (.tmp 6))⟩, ⟨(some 38), none, (.mv (.tmp 1))⟩, ⟨(some 39), none, (.bin .quo (.tmp 38) (.const (.int .i64 (32))))⟩, ⟨(some 40), none, (.bin .add (.tmp 37) (.tmp 39))⟩, ⟨(some 41), none, (.iaddr 1 none (.tmp 36) (.tmp 40))⟩, ⟨(some 42), none, (.load 1 false (.tmp 41))⟩, ⟨(some 43), none, (.mv (.tmp 8))⟩, ⟨(some 44), none, (.conv .u32 (.tmp 43))⟩, ⟨(some 45), none, (.bin .or (.tmp 42) (.tmp 44))⟩, ⟨(some 46), none, (.iaddr 1 none (.tmp 36) (.tmp 40))⟩, ⟨none, none, (.store 1 (.tmp 46) (.tmp 45))⟩]) (.reg [⟨(some 47), none, (.mv (.tmp 5))⟩, ⟨(some 48), none, (.mv (.tmp 6))⟩, ⟨(some 49), none, (.mv (.tmp 1))⟩, ⟨(some 50), none, (.bin .quo (.tmp 49) (.const (.int .i64 (32))))⟩, ⟨(some 51), none, (.bin .add (.tmp 48) (.tmp 50))⟩, ⟨(some 52), none, (.bin .add (.tmp 51) (.const (.int .i64 (1))))⟩, ⟨(some 53), none, (.iaddr 1 none (.tmp 47) (.tmp 52))⟩, ⟨(some 54), none, (.load 1 false (.tmp 53))⟩, ⟨(some 55), none, (.mv (.tmp 8))⟩, ⟨(some 56), none, (.bin .shr (.tmp 55) (.const (.int .u64 (32))))⟩, ⟨(some 57), none, (.conv .u32 (.tmp 56))⟩, ⟨(some 58), none, (.bin .or (.tmp 54) (.tmp 57))⟩, ⟨(some 59), none, (.iaddr 1 none (.tmp 47) (.tmp 52))⟩, ⟨none, none, (.store 1 (.tmp 59) (.tmp 58))⟩]))))) (.reg [⟨(some 60), none, (.bin .add (.tmp 26) (.const (.int .i64 (1))))⟩, ⟨(some 26), none, (.mv (.tmp 60))⟩]))))
abbrev c114 : CC := (.seq (.reg [⟨(some 4), none, (.mv (.const (.slice none 0 0)))⟩]) (.seq (.seq (.reg [⟨(some 9), none, (.mv (.tmp 1))⟩, ⟨(some 10), none, (.bin .lss (.tmp 9) (.const (.int .i64 (0))))⟩, ⟨(some 11), none, (.mv (.tmp 10))⟩, ⟨(some 12), (some (11, false)), (.mv (.tmp 1))⟩, ⟨(some 13), (some (11, false)), (.bin .gtr (.tmp 12) (.const (.int .i64 (65536))))⟩, ⟨(some 14), none, (.pick (.tmp 11) (.const (.bool true)) (.tmp 13))⟩]) (.cond (.tmp 14) (.seq (.reg [⟨(some 15), none, (.mv (.tmp 0))⟩, ⟨(some 16), none, (.callf (.func 90) [(.tmp 15)])⟩, ⟨(some 4), none, (.mv (.tmp 16))⟩]) .ret) .skip)) (.seq (.reg [⟨(some 17), none, (.mv (.tmp 0))⟩, ⟨(some 18), none, (.len false (.tmp 17))⟩, ⟨(some 19), none, (.mv (.tmp 1))⟩, ⟨(some 20), none, (.bin .quo (.tmp 19) (.const (.int .i64 (32))))⟩, ⟨(some 21), none, (.bin .add (.tmp 18) (.tmp 20))⟩, ⟨(some 22), none, (.bin .add (.tmp 21) (.const (.int .i64 (1))))⟩, ⟨(some 23), none, (.make 120 1 4 [(.int .u32 (0))] (.tmp 22) (.tmp 22))⟩, ⟨(some 5), none, (.mv (.tmp 23))⟩]) (.seq (.seq (.reg [⟨(some 24), none, (.mv (.tmp 0))⟩, ⟨(some 25), none, (.len false (.tmp 24))⟩, ⟨(some 26), none, (.mv (.const (.int .i64 (0))))⟩]) (.block 0 (.loop c114_b1))) c114_k1))))
theorem cc114 : ccode Tryd.prog [] (Tryd.f114.body.getD .skip) = some c114 := by kernel_rfl
theorem body114 : Tryd.f114.body = some (Tryd.f114.body.getD .skip) := rfl

theorem shift_C (a : Row) (n : Nat) (ha : (osl a).length ≤ 1000000000) (hn : n < 32) : PureC Tryd.prog 114 [aN a, aI n] (.ret (aN (rowN (a.val * 2 ^ n)))) := by
  refine pureC_of (rs := [(RV.tmp 4)]) Tryd.func114 (fun a w => Tryd.call114 a w) body114 cc114 (by kernel_rfl) ?_
  rw [Tryd.ntmps114]
  simp only [frs, Nat.reduceAdd, Nat.reduceSub]
  have hq : ((n : Int).tdiv 32) = 0 := by rw [tdiv_nn (by omega)]; omega
  have hr : ((n : Int).tmod 32) = n := by rw [tmod_nn (by omega)]; omega
  have hl1 : (((osl a).length : Int) + 1) = (((osl a).length + 1 : Nat) : Int) := by omega
  repeat (first | (with_reducible first | refine Way.imp ?_ | refine blk_o rfl ?_) | ((with_reducible refine WayR.imp (fun K hK => ?_)); simp (disch := first | omega | (simp only [dls]; omega)) only [std, reduceIte, reduceCtorEq, Int.reduceToNat, Nat.reduceAdd, Nat.reduceSub, Nat.reduceMul, Int.reduceAdd, Int.reduceSub, Int.reduceMul, Int.reduceNeg, fU, hq, hr, hl1, repU, List.length_replicate, Int.add_zero]; subst hK))
  refine awp_loop (fun (zz : Nat × (List UInt32)) => ⟨(aN a :: aI n :: .junk :: .junk :: .one (.c (.val (.slice none 0 0))) :: .one (.own 0 0) :: .junk :: .junk :: .junk :: .junk :: .junk :: .junk :: .junk :: .junk :: .junk :: .junk :: .junk :: .junk :: .junk :: .junk :: .junk :: .junk :: .junk :: .junk :: aN a :: aI (osl a).length :: aI zz.1 :: .junk :: .junk :: .junk :: .junk :: .junk :: .junk :: .junk :: .junk :: .junk :: .junk :: .junk :: .junk :: .junk :: .junk :: .junk :: .junk :: .junk :: .junk :: .junk :: .junk :: .junk :: .junk :: .junk :: .junk :: .junk :: .junk :: .junk :: .junk :: .junk :: .junk :: .junk :: .junk :: .junk :: .junk :: .junk :: .junk :: []), [⟨0, 120, 1, encB fU zz.2, true, true⟩]⟩) (fun (zz : Nat × (List UInt32)) => zz.1 ≤ (osl a).length ∧ zz.2.length = (osl a).length + 1 ∧ val zz.2 = low (osl a) zz.1 * 2 ^ n ∧ (∀ j, zz.1 < j → dgt zz.2 j = 0) ∧ dgt zz.2 zz.1 < 2 ^ n) (fun (zz : Nat × (List UInt32)) => (osl a).length - zz.1) (0, List.replicate ((osl a).length + 1) 0) ?hI2 (Fgt.head (Nat.zero_le 1) [true, true, false, false, true, true, false, false, false, false, false, false, false, false, false, false, false, false, false, false, false, false, false, false, true, true, true] ?hT2 ?hH2) ?hB2
  case hT2 => first | (simp (disch := omega) only [hds, liveT, cleanAV, cleanCell, clean1, cleanBlk, reduceIte, Int.reduceSub, Int.reduceAdd, Int.reduceNeg]; done) | rfl
  case hH2 => first | (simp (disch := omega) only [hds, liveT, cleanAV, cleanCell, clean1, cleanBlk, reduceIte, Int.reduceSub, Int.reduceAdd, Int.reduceNeg]; done) | rfl
  · dsimp only; exact ⟨by omega, List.length_replicate, by rw [val_replicate, low_zero, Nat.zero_mul], fun j _ => dgt_replicate _ _, by rw [dgt_replicate]; exact Nat.pow_pos (by decide)⟩
  rintro ⟨k, out⟩ ⟨hk, hlen, hval, hz, hd⟩
  dsimp only at hk hlen hval hz hd
  by_cases hkm : k = (osl a).length
  · have ht := trim_C (some out) (by show out.length ≤ _; omega)
    rw [Option.map_some] at ht
    repeat (first | (with_reducible first | refine Way.imp ?_ | refine blk_o rfl ?_) | ((with_reducible refine WayR.imp (fun K hK => ?_)); simp (disch := first | omega | (simp only [dls]; omega)) only [std, reduceIte, reduceCtorEq, Int.reduceToNat, Nat.reduceAdd, Nat.reduceSub, Nat.reduceMul, Int.reduceAdd, Int.reduceSub, Int.reduceMul, Int.reduceNeg, fU]; subst hK) | (apply call_ret (ht) rfl; (case hcl => (simp only [evs, St.ev, constAV, evl]; (repeat (first | exact closeAVs_nil | (apply closeAVs_cons; (first | (refine close_own3 rfl (by decide)) | (refine close_ownO rfl (by decide) ?_; assumption) | rfl)))); done)); (case hf => rfl); (case hu => (simp only [evs, St.ev, constAV, evl]; (repeat (first | exact used_nil | (apply used_cons; (first | (apply used_own3; rfl) | rfl)))); done)); (case hh => ((simp only [fzl, Nat.reduceBEq, Nat.reduceAdd, Bool.false_eq_true, if_true, if_false, reduceIte]) <;> rfl))))
    refine ⟨_, rfl, ?_⟩
    rw [hval, low_all _ (by omega)]
    exact Ends.ret_c
  · have hx := dgt_lt (osl a) k
    have hdx := dgt_eq (osl a) k (by omega)
    have hdo := dgt_eq out k (by omega)
    obtain ⟨ho, hv, hu, hy64⟩ := shl_word hn hx hd
    have hs := shlI_u64 (n := n) (dgt (osl a) k) (by omega) rfl
    rw [Nat.mod_eq_of_lt hy64] at hs
    generalize hy : dgt (osl a) k * 2 ^ n = y at *
    have hc := wrap_u32_nat y
    have hor := orI_u32 (x := dgt out k) (y := y % 4294967296) (dgt_lt _ _) (by omega)
    rw [show dgt out k ||| y % 4294967296 = (UInt32.ofNat (dgt out k + y % 4294967296)).toNat from by rw [ho, UInt32.toNat_ofNat', Nat.mod_eq_of_lt (show _ < 2 ^ 32 from hv)]] at hor
    have hvT : (UInt32.ofNat (dgt out k + y % 4294967296)).toNat = dgt out k + y % 4294967296 := by rw [UInt32.toNat_ofNat', Nat.mod_eq_of_lt (show _ < 2 ^ 32 from hv)]
    generalize UInt32.ofNat (dgt out k + y % 4294967296) = v at *
    have hd1 := dgt_eq (out.set k v) (k + 1) (by rw [List.length_set]; omega)
    have hz1 : dgt (out.set k v) (k + 1) = 0 := by rw [dgt_set_ne _ _ _ _ (by omega)]; exact hz _ (by omega)
    have hyW : y / 4294967296 < 4294967296 := Nat.lt_of_lt_of_le hu (by have := Nat.pow_le_pow_right (n := 2) (by decide) (show n ≤ 32 by omega); simpa using this)
    have hsh := shr32 (y : Int) (by omega)
    have hc2 : IntKind.u32.wrap ((y : Int) / 4294967296) = ((y / 4294967296 : Nat) : Int) := by rw [wu32 (by omega) (by omega)]; simp
    obtain ⟨u, hu1⟩ : ∃ u : UInt32, u.toNat = y / 4294967296 := ⟨UInt32.ofNat (y / 4294967296), by rw [UInt32.toNat_ofNat', Nat.mod_eq_of_lt (show _ < 2 ^ 32 from hyW)]⟩
    have hor2 : orI .u32 ((0 : Nat) : Int) ((y / 4294967296 : Nat) : Int) = (u.toNat : Int) := by rw [orI_u32 (by decide) hyW, Nat.zero_or, hu1]
    have hk1 : ((k : Int) + 1).toNat = k + 1 := by omega
    repeat (first | (with_reducible first | refine Way.imp ?_ | refine blk_o rfl ?_) | ((with_reducible refine WayR.imp (fun K hK => ?_)); simp (disch := first | omega | (simp only [dls]; omega)) only [std, reduceIte, reduceCtorEq, Int.reduceToNat, Nat.reduceAdd, Nat.reduceSub, Nat.reduceMul, Int.reduceAdd, Int.reduceSub, Int.reduceMul, Int.reduceNeg, fU, ← hdx, hr, hq, hs, hc, hor, ← hdo, setU, Int.add_zero, hsh, hc2, hk1, ← hd1, hz1, hor2]; subst hK))
    refine ⟨(k + 1, (out.set k v).set (k + 1) u), ?hI3, ?hM3, Fgt.head (Nat.zero_le 1) [true, true, false, false, true, true, false, false, false, false, false, false, false, false, false, false, false, false, false, false, false, false, false, false, true, true, true] ?hT3 ?hH3⟩
    case hT3 => first | (simp (disch := omega) only [hds, liveT, cleanAV, cleanCell, clean1, cleanBlk, reduceIte, Int.reduceSub, Int.reduceAdd, Int.reduceNeg]; done) | rfl
    case hH3 => first | (simp (disch := omega) only [hds, liveT, cleanAV, cleanCell, clean1, cleanBlk, reduceIte, Int.reduceSub, Int.reduceAdd, Int.reduceNeg]; done) | rfl
    · dsimp only
      have e1 := val_set out k (by omega) v
      have e2 := val_set (out.set k v) (k + 1) (by rw [List.length_set]; omega) u
      rw [hz1, hu1] at e2
      rw [hvT] at e1
      refine ⟨by omega, by rw [List.length_set, List.length_set]; exact hlen, ?_, fun j hj => ?_, ?_⟩
      · rw [low_succ]
        exact shl_val hy.symm e1 e2 hval
      · rw [dgt_set_ne _ _ _ _ (by omega), dgt_set_ne _ _ _ _ (by omega)]
        exact hz j (by omega)
      · rw [dgt_set_eq _ _ (by rw [List.length_set]; omega), hu1]
        exact hu
    · dsimp only; omega

end Go.Proofs.YtdhkdnmefeeclaaDoor
set_option linter.unusedSimpArgs false
set_option linter.unusedVariables false
set_option maxRecDepth 100000
set_option maxHeartbeats 4000000
namespace Go.Proofs.YtdhkdnmefeeclaaDoor
open Go Go.Am Go.Proofs Go.Off

theorem osl_rowN (n : Nat) : osl (rowN n) = digits n := rfl
theorem digits_len_mono {a b : Nat} (h : a ≤ b) : (digits a).length ≤ (digits b).length := by
  have := val_lt (digits b)
  rw [val_digits] at this
  exact digits_len_le (Nat.lt_of_le_of_lt h this)
theorem digits_len_shl (b k : Nat) (hk : k ≤ 32) : (digits (b * 2 ^ k)).length ≤ (digits b).length + 1 := by
  have h1 := val_lt (digits b)
  rw [val_digits] at h1
  have h2 : (2 : Nat) ^ k ≤ 2 ^ 32 := Nat.pow_le_pow_right (by decide) hk
  refine digits_len_le ?_
  rw [Nat.pow_succ]
  calc b * 2 ^ k ≤ b * 2 ^ 32 := Nat.mul_le_mul_left _ h2
    _ < 4294967296 ^ (digits b).length * 4294967296 := Nat.mul_lt_mul_of_pos_right h1 (by decide)

abbrev c115_k1 : CC := (.seq (.reg [⟨(some 28), none, (.mv (.tmp 6))⟩, ⟨(some 29), none, (.mv (.tmp 0))⟩, ⟨(some 4), none, (.mv (.tmp 28))⟩, ⟨(some 5), none, (.mv (.tmp 29))⟩]) .ret)
abbrev c115_b1 : CC := (.seq (.seq (.reg [⟨(some 10), none, (.mv (.tmp 7))⟩, ⟨(some 11), none, (.bin .geq (.tmp 10) (.const (.int .i64 (0))))⟩]) (.cond (.tmp 11) .skip (.exit 0))) (.seq (.block 1 (.seq (.reg [⟨(some 15), none, (.mv (.tmp 0))⟩, ⟨(some 16), none, (.mv (.tmp 1))⟩, ⟨(some 17), none, (.mv (.tmp 7))⟩, ⟨(some 18), none, (.callf (.func 114) [(.tmp 16), (.tmp 17)])⟩, ⟨(some 19), none, (.callf (.func 92) [(.tmp 15), (.tmp 18)])⟩, ⟨(some 14), none, (.mv (.tmp 19))⟩, ⟨(some 20), none, (.ext (.tmp 14) 0)⟩, ⟨(some 21), none, (.ext (.tmp 14) 1)⟩, ⟨(some 8), none, (.mv (.tmp 20))⟩, ⟨(some 9), none, (.mv (.tmp 21))⟩]) (.seq (.reg [⟨(some 22), none, (.mv (.tmp 9))⟩]) (.cond (.tmp 22) (.seq (.reg [⟨(some 23), none, (.mv (.tmp 8))⟩, ⟨(some 0), none, (.mv (.tmp 23))⟩]) (.reg [⟨(some 24), none, (.mv (.tmp 6))⟩, ⟨(some 25), none, (.mv (.tmp 7))⟩, ⟨(some 26), none, (.bin .shl (.const (.int .u32 (1))) (.tmp 25))⟩, ⟨(some 27), none, (.bin .or (.tmp 24) (.tmp 26))⟩, ⟨(some 6), none, (.mv (.tmp 27))⟩])) .skip)))) (.reg [⟨(some 12), none, (.mv (.tmp 7))⟩, ⟨(some 13), none, (.bin .sub (.tmp 12) (.const (.int .i64 (1))))⟩, ⟨(some 7), none, (.mv (.tmp 13))⟩])))
abbrev c115 : CC := (.seq (.reg [⟨(some 4), none, (.mv (.const (.int .u32 (0))))⟩, ⟨(some 5), none, (.mv (.const (.slice none 0 0)))⟩]) (.seq (.reg [⟨(some 6), none, (.mv (.const (.int .u32 (0))))⟩]) (.seq (.seq (.reg [⟨(some 7), none, (.mv (.const (.int .i64 (31))))⟩]) (.block 0 (.loop c115_b1))) c115_k1)))
theorem cc115 : ccode Tryd.prog [] (Tryd.f115.body.getD .skip) = some c115 := by kernel_rfl
theorem body115 : Tryd.f115.body = some (Tryd.f115.body.getD .skip) := rfl

theorem digit_C (A0 : Nat) (b : Row) (hb : (osl b).length ≤ 100000000) (hl : (digits A0).length ≤ 200000000) (hA : A0 < b.val * 2 ^ 32) :
    PureC Tryd.prog 115 [aN (rowN A0), aN b] (.ret (.tup [aU32 ((A0 / b.val : Nat) : Int), aN (rowN (A0 % b.val))])) := by
  refine pureC_of (rs := [(RV.tmp 4), (RV.tmp 5)]) Tryd.func115 (fun a w => Tryd.call115 a w) body115 cc115 (by kernel_rfl) ?_
  rw [Tryd.ntmps115]
  simp only [frs, Nat.reduceAdd, Nat.reduceSub]
  have hlb := digits_len_row b
  repeat (first | (with_reducible first | refine Way.imp ?_ | refine blk_o rfl ?_) | ((with_reducible refine WayR.imp (fun K hK => ?_)); simp (disch := first | omega | (simp only [dls]; omega)) only [std, reduceIte, reduceCtorEq, Int.reduceToNat, Nat.reduceAdd, Nat.reduceSub, Nat.reduceMul, Int.reduceAdd, Int.reduceSub, Int.reduceMul, Int.reduceNeg, fU]; subst hK))
  refine awp_loop (fun (zz : Nat × Nat × Nat) => ⟨(aN (rowN zz.2.1) :: aN b :: .junk :: .junk :: aU32 0 :: .one (.c (.val (.slice none 0 0))) :: aU32 zz.2.2 :: aI ((zz.1 : Int) - 1) :: .junk :: .junk :: .junk :: .junk :: .junk :: .junk :: .junk :: .junk :: .junk :: .junk :: .junk :: .junk :: .junk :: .junk :: .junk :: .junk :: .junk :: .junk :: .junk :: .junk :: .junk :: .junk :: []), []⟩) (fun (zz : Nat × Nat × Nat) => DigI A0 b.val zz.2.1 zz.2.2 zz.1 ∧ zz.2.1 ≤ A0 ∧ zz.1 ≤ 32) (fun (zz : Nat × Nat × Nat) => zz.1) (32, A0, 0) ?hI1 (Fgt.head (Nat.le_refl _) [true, true, false, false, true, true, true, true] ?hT1 ?hH1) ?hB1
  case hT1 => first | (simp (disch := omega) only [hds, liveT, cleanAV, cleanCell, clean1, cleanBlk, reduceIte, Int.reduceSub, Int.reduceAdd, Int.reduceNeg]; done) | rfl
  case hH1 => first | (simp (disch := omega) only [hds, liveT, cleanAV, cleanCell, clean1, cleanBlk, reduceIte, Int.reduceSub, Int.reduceAdd, Int.reduceNeg]; done) | rfl
  · dsimp only; exact ⟨DigI.start hA, Nat.le_refl _, Nat.le_refl _⟩
  rintro ⟨k, A, q⟩ ⟨hI, hle, hk⟩
  dsimp only at hI hle hk
  cases k with
  | zero =>
    obtain ⟨h1, h2⟩ := hI.done
    repeat (first | (with_reducible first | refine Way.imp ?_ | refine blk_o rfl ?_) | ((with_reducible refine WayR.imp (fun K hK => ?_)); simp (disch := first | omega | (simp only [dls]; omega)) only [std, reduceIte, reduceCtorEq, Int.reduceToNat, Nat.reduceAdd, Nat.reduceSub, Nat.reduceMul, Int.reduceAdd, Int.reduceSub, Int.reduceMul, Int.reduceNeg, fU]; subst hK))
    refine ⟨_, rfl, ?_⟩
    rw [← h1, ← h2]
    exact rfl
  | succ k =>
    have hk1 : ((k + 1 : Nat) : Int) - 1 = (k : Int) := by omega
    have hdl := digits_len_mono hle
    have hsl := digits_len_shl b.val k (by omega)
    by_cases hge : b.val * 2 ^ k ≤ A
    · obtain ⟨hI2, hor⟩ := hI.yes hge
      have hq := hI2.qlt
      have hp : 0 < 2 ^ k := Nat.pow_pos (by decide)
      have hs : shlI .u32 1 k = ((2 ^ k : Nat) : Int) := by
        have := shlI_u32 (n := k) 1 (by omega) rfl
        rw [Nat.one_mul, Nat.mod_eq_of_lt (by omega)] at this
        exact this
      have ho := orI_u32 (x := q) (y := 2 ^ k) (by omega) (by omega)
      have hsub := sub_ge (rowN A) (rowN (b.val * 2 ^ k)) (by rw [osl_rowN]; omega) (by rw [osl_rowN]; omega) (by rw [rowN_val, rowN_val]; exact hge)
      rw [rowN_val, rowN_val] at hsub
      repeat (first | (with_reducible first | refine Way.imp ?_ | refine blk_o rfl ?_) | ((with_reducible refine WayR.imp (fun K hK => ?_)); simp (disch := first | omega | (simp only [dls]; omega)) only [std, reduceIte, reduceCtorEq, Int.reduceToNat, Nat.reduceAdd, Nat.reduceSub, Nat.reduceMul, Int.reduceAdd, Int.reduceSub, Int.reduceMul, Int.reduceNeg, fU, hk1, hs, ho]; subst hK) | refine zcA (shift_C b k (by omega) (by omega)) rfl rfl rfl ?_ | refine zcA (hsub) rfl rfl rfl ?_)
      refine ⟨(k, A - b.val * 2 ^ k, q ||| 2 ^ k), ?hI2, ?hM2, Fgt.head (Nat.le_refl _) [true, true, false, false, true, true, true, true] ?hT2 ?hH2⟩
      case hT2 => first | (simp (disch := omega) only [hds, liveT, cleanAV, cleanCell, clean1, cleanBlk, reduceIte, Int.reduceSub, Int.reduceAdd, Int.reduceNeg]; done) | rfl
      case hH2 => first | (simp (disch := omega) only [hds, liveT, cleanAV, cleanCell, clean1, cleanBlk, reduceIte, Int.reduceSub, Int.reduceAdd, Int.reduceNeg]; done) | rfl
      · dsimp only; exact ⟨hI2, by omega, by omega⟩
      · dsimp only; omega
    · have hI2 := hI.no (by omega)
      have hsub := sub_lt (rowN A) (rowN (b.val * 2 ^ k)) (by rw [osl_rowN]; omega) (by rw [osl_rowN]; omega) (by rw [rowN_val, rowN_val]; omega)
      repeat (first | (with_reducible first | refine Way.imp ?_ | refine blk_o rfl ?_) | ((with_reducible refine WayR.imp (fun K hK => ?_)); simp (disch := first | omega | (simp only [dls]; omega)) only [std, reduceIte, reduceCtorEq, Int.reduceToNat, Nat.reduceAdd, Nat.reduceSub, Nat.reduceMul, Int.reduceAdd, Int.reduceSub, Int.reduceMul, Int.reduceNeg, fU, hk1]; subst hK) | refine zcA (shift_C b k (by omega) (by omega)) rfl rfl rfl ?_ | refine zcA (hsub) rfl rfl rfl ?_)
      refine ⟨(k, A, q), ?hI3, ?hM3, Fgt.head (Nat.le_refl _) [true, true, false, false, true, true, true, true] ?hT3 ?hH3⟩
      case hT3 => first | (simp (disch := omega) only [hds, liveT, cleanAV, cleanCell, clean1, cleanBlk, reduceIte, Int.reduceSub, Int.reduceAdd, Int.reduceNeg]; done) | rfl
      case hH3 => first | (simp (disch := omega) only [hds, liveT, cleanAV, cleanCell, clean1, cleanBlk, reduceIte, Int.reduceSub, Int.reduceAdd, Int.reduceNeg]; done) | rfl
      · dsimp only; exact ⟨hI2, by omega, by omega⟩
      · dsimp only; omega

def lenTab : List UInt8 := [0, 1, 2, 2, 3, 3, 3, 3, 4, 4, 4, 4, 4, 4, 4, 4, 5, 5, 5, 5, 5, 5, 5, 5, 5, 5, 5, 5, 5, 5, 5, 5, 6, 6, 6, 6, 6, 6, 6, 6, 6, 6, 6, 6, 6, 6, 6, 6, 6, 6, 6, 6, 6, 6, 6, 6, 6, 6, 6, 6, 6, 6, 6, 6, 7, 7, 7, 7, 7, 7, 7, 7, 7, 7, 7, 7, 7, 7, 7, 7, 7, 7, 7, 7, 7, 7, 7, 7, 7, 7, 7, 7, 7, 7, 7, 7, 7, 7, 7, 7, 7, 7, 7, 7, 7, 7, 7, 7, 7, 7, 7, 7, 7, 7, 7, 7, 7, 7, 7, 7, 7, 7, 7, 7, 7, 7, 7, 7, 8, 8, 8, 8, 8, 8, 8, 8, 8, 8, 8, 8, 8, 8, 8, 8, 8, 8, 8, 8, 8, 8, 8, 8, 8, 8, 8, 8, 8, 8, 8, 8, 8, 8, 8, 8, 8, 8, 8, 8, 8, 8, 8, 8, 8, 8, 8, 8, 8, 8, 8, 8, 8, 8, 8, 8, 8, 8, 8, 8, 8, 8, 8, 8, 8, 8, 8, 8, 8, 8, 8, 8, 8, 8, 8, 8, 8, 8, 8, 8, 8, 8, 8, 8, 8, 8, 8, 8, 8, 8, 8, 8, 8, 8, 8, 8, 8, 8, 8, 8, 8, 8, 8, 8, 8, 8, 8, 8, 8, 8, 8, 8, 8, 8, 8, 8, 8, 8, 8, 8, 8, 8, 8, 8, 8, 8, 8, 8]
def lenStr : Value := .string ⟨#[0, 1, 2, 2, 3, 3, 3, 3, 4, 4, 4, 4, 4, 4, 4, 4, 5, 5, 5, 5, 5, 5, 5, 5, 5, 5, 5, 5, 5, 5, 5, 5, 6, 6, 6, 6, 6, 6, 6, 6, 6, 6, 6, 6, 6, 6, 6, 6, 6, 6, 6, 6, 6, 6, 6, 6, 6, 6, 6, 6, 6, 6, 6, 6, 7, 7, 7, 7, 7, 7, 7, 7, 7, 7, 7, 7, 7, 7, 7, 7, 7, 7, 7, 7, 7, 7, 7, 7, 7, 7, 7, 7, 7, 7, 7, 7, 7, 7, 7, 7, 7, 7, 7, 7, 7, 7, 7, 7, 7, 7, 7, 7, 7, 7, 7, 7, 7, 7, 7, 7, 7, 7, 7, 7, 7, 7, 7, 7, 8, 8, 8, 8, 8, 8, 8, 8, 8, 8, 8, 8, 8, 8, 8, 8, 8, 8, 8, 8, 8, 8, 8, 8, 8, 8, 8, 8, 8, 8, 8, 8, 8, 8, 8, 8, 8, 8, 8, 8, 8, 8, 8, 8, 8, 8, 8, 8, 8, 8, 8, 8, 8, 8, 8, 8, 8, 8, 8, 8, 8, 8, 8, 8, 8, 8, 8, 8, 8, 8, 8, 8, 8, 8, 8, 8, 8, 8, 8, 8, 8, 8, 8, 8, 8, 8, 8, 8, 8, 8, 8, 8, 8, 8, 8, 8, 8, 8, 8, 8, 8, 8, 8, 8, 8, 8, 8, 8, 8, 8, 8, 8, 8, 8, 8, 8, 8, 8, 8, 8, 8, 8, 8, 8, 8, 8, 8, 8]⟩
theorem constAV_lenStr : constAV lenStr = .one (.c (.str lenTab)) := rfl
theorem lenTab_all : ((List.range 256).all fun j => j == 0 || (match lenTab[j]? with | some b => 1 ≤ b.toNat && b.toNat ≤ 8 | none => false)) = true := by kernel_rfl
theorem lenTab_get {j : Nat} (h1 : 1 ≤ j) (h2 : j < 256) : ∃ b : UInt8, lenTab[j]? = some b ∧ 1 ≤ b.toNat ∧ b.toNat ≤ 8 := by
  have := List.all_eq_true.1 lenTab_all j (List.mem_range.2 h2)
  cases hq : lenTab[j]? with
  | none => rw [hq] at this; simp at this; omega
  | some b => rw [hq] at this; simp at this; exact ⟨b, rfl, by omega, by omega⟩

abbrev c118 : CC := (.seq (.reg [⟨(some 2), none, (.mv (.const (.int .i64 (0))))⟩]) (.seq (.seq (.reg [⟨(some 3), none, (.mv (.tmp 0))⟩, ⟨(some 4), none, (.bin .geq (.tmp 3) (.const (.int .u32 (65536))))⟩]) (.cond (.tmp 4) (.seq (.reg [⟨(some 5), none, (.mv (.tmp 0))⟩, ⟨(some 6), none, (.bin .shr (.tmp 5) (.const (.int .u64 (16))))⟩, ⟨(some 0), none, (.mv (.tmp 6))⟩]) (.reg [⟨(some 2), none, (.mv (.const (.int .i64 (16))))⟩])) .skip)) (.seq (.seq (.reg [⟨(some 7), none, (.mv (.tmp 0))⟩, ⟨(some 8), none, (.bin .geq (.tmp 7) (.const (.int .u32 (256))))⟩]) (.cond (.tmp 8) (.seq (.reg [⟨(some 9), none, (.mv (.tmp 0))⟩, ⟨(some 10), none, (.bin .shr (.tmp 9) (.const (.int .u64 (8))))⟩, ⟨(some 0), none, (.mv (.tmp 10))⟩]) (.reg [⟨(some 11), none, (.mv (.tmp 2))⟩, ⟨(some 12), none, (.bin .add (.tmp 11) (.const (.int .i64 (8))))⟩, ⟨(some 2), none, (.mv (.tmp 12))⟩])) .skip)) (.seq (.reg [⟨(some 13), none, (.mv (.tmp 2))⟩, ⟨(some 14), none, (.mv (.tmp 0))⟩, ⟨(some 15), none, (.conv .u8 (.tmp 14))⟩, ⟨(some 16), none, (.sidx (.const lenStr) (.tmp 15))⟩, ⟨(some 17), none, (.conv .i64 (.tmp 16))⟩, ⟨(some 18), none, (.bin .add (.tmp 13) (.tmp 17))⟩, ⟨(some 2), none, (.mv (.tmp 18))⟩]) .ret))))
theorem cc118 : ccode Tryd.prog [] (Tryd.f118.body.getD .skip) = some c118 := by kernel_rfl
theorem body118 : Tryd.f118.body = some (Tryd.f118.body.getD .skip) := rfl

theorem len32_C (x : Nat) (h1 : 1 ≤ x) (h2 : x < 4294967296) : ∃ m : Nat, 1 ≤ m ∧ m ≤ 40 ∧ PureC Tryd.prog 118 [aU32 (x : Int)] (.ret (aI (m : Int))) := by
  have hs16 : shrI .u32 (x : Int) 16 = ((x / 65536 : Nat) : Int) := by unfold shrI; rw [Int.fdiv_eq_ediv_of_nonneg _ (Int.pow_nonneg (by decide))]; simp [IntKind.bits]
  have hs8 : ∀ y : Nat, shrI .u32 (y : Int) 8 = ((y / 256 : Nat) : Int) := fun y => by unfold shrI; rw [Int.fdiv_eq_ediv_of_nonneg _ (Int.pow_nonneg (by decide))]; simp [IntKind.bits]
  by_cases hA : 65536 ≤ x
  · by_cases hB : 256 ≤ x / 65536
    · obtain ⟨b, hb, hb1, hb2⟩ := lenTab_get (j := x / 65536 / 256) (by omega) (by omega)
      refine ⟨24 + b.toNat, by omega, by omega, ?_⟩
      refine pureC_of (rs := [(RV.tmp 2)]) Tryd.func118 (fun a w => Tryd.call118 a w) body118 cc118 (by kernel_rfl) ?_
      rw [Tryd.ntmps118]
      simp only [frs, Nat.reduceAdd, Nat.reduceSub]
      repeat (first | (with_reducible first | refine Way.imp ?_ | refine blk_o rfl ?_) | ((with_reducible refine WayR.imp (fun K hK => ?_)); simp (disch := first | omega | (simp only [dls]; omega)) only [std, reduceIte, reduceCtorEq, Int.reduceToNat, Nat.reduceAdd, Nat.reduceSub, Nat.reduceMul, Int.reduceAdd, Int.reduceSub, Int.reduceMul, Int.reduceNeg, fU, hs16, hs8, constAV_lenStr, hb]; subst hK))
      exact ⟨_, rfl, by rw [Int.natCast_add]; exact Ends.ret_c⟩
    · obtain ⟨b, hb, hb1, hb2⟩ := lenTab_get (j := x / 65536) (by omega) (by omega)
      refine ⟨16 + b.toNat, by omega, by omega, ?_⟩
      refine pureC_of (rs := [(RV.tmp 2)]) Tryd.func118 (fun a w => Tryd.call118 a w) body118 cc118 (by kernel_rfl) ?_
      rw [Tryd.ntmps118]
      simp only [frs, Nat.reduceAdd, Nat.reduceSub]
      repeat (first | (with_reducible first | refine Way.imp ?_ | refine blk_o rfl ?_) | ((with_reducible refine WayR.imp (fun K hK => ?_)); simp (disch := first | omega | (simp only [dls]; omega)) only [std, reduceIte, reduceCtorEq, Int.reduceToNat, Nat.reduceAdd, Nat.reduceSub, Nat.reduceMul, Int.reduceAdd, Int.reduceSub, Int.reduceMul, Int.reduceNeg, fU, hs16, hs8, constAV_lenStr, hb]; subst hK))
      exact ⟨_, rfl, by rw [Int.natCast_add]; exact Ends.ret_c⟩
  · by_cases hB : 256 ≤ x
    · obtain ⟨b, hb, hb1, hb2⟩ := lenTab_get (j := x / 256) (by omega) (by omega)
      refine ⟨8 + b.toNat, by omega, by omega, ?_⟩
      refine pureC_of (rs := [(RV.tmp 2)]) Tryd.func118 (fun a w => Tryd.call118 a w) body118 cc118 (by kernel_rfl) ?_
      rw [Tryd.ntmps118]
      simp only [frs, Nat.reduceAdd, Nat.reduceSub]
      repeat (first | (with_reducible first | refine Way.imp ?_ | refine blk_o rfl ?_) | ((with_reducible refine WayR.imp (fun K hK => ?_)); simp (disch := first | omega | (simp only [dls]; omega)) only [std, reduceIte, reduceCtorEq, Int.reduceToNat, Nat.reduceAdd, Nat.reduceSub, Nat.reduceMul, Int.reduceAdd, Int.reduceSub, Int.reduceMul, Int.reduceNeg, fU, hs16, hs8, constAV_lenStr, hb]; subst hK))
      exact ⟨_, rfl, by rw [Int.natCast_add]; exact Ends.ret_c⟩
    · obtain ⟨b, hb, hb1, hb2⟩ := lenTab_get (j := x) (by omega) (by omega)
      refine ⟨0 + b.toNat, by omega, by omega, ?_⟩
      refine pureC_of (rs := [(RV.tmp 2)]) Tryd.func118 (fun a w => Tryd.call118 a w) body118 cc118 (by kernel_rfl) ?_
      rw [Tryd.ntmps118]
      simp only [frs, Nat.reduceAdd, Nat.reduceSub]
      repeat (first | (with_reducible first | refine Way.imp ?_ | refine blk_o rfl ?_) | ((with_reducible refine WayR.imp (fun K hK => ?_)); simp (disch := first | omega | (simp only [dls]; omega)) only [std, reduceIte, reduceCtorEq, Int.reduceToNat, Nat.reduceAdd, Nat.reduceSub, Nat.reduceMul, Int.reduceAdd, Int.reduceSub, Int.reduceMul, Int.reduceNeg, fU, hs16, hs8, constAV_lenStr, hb]; subst hK))
      exact ⟨_, rfl, by rw [Int.natCast_add]; exact Ends.ret_c⟩

abbrev c93 : CC := (.seq (.reg [⟨(some 2), none, (.mv (.const (.int .i64 (0))))⟩]) (.seq (.reg [⟨(some 3), none, (.mv (.tmp 0))⟩, ⟨(some 4), none, (.callf (.func 90) [(.tmp 3)])⟩, ⟨(some 0), none, (.mv (.tmp 4))⟩]) (.seq (.seq (.reg [⟨(some 5), none, (.mv (.tmp 0))⟩, ⟨(some 6), none, (.len false (.tmp 5))⟩, ⟨(some 7), none, (.bin .eql (.tmp 6) (.const (.int .i64 (0))))⟩]) (.cond (.tmp 7) (.seq (.reg [⟨(some 2), none, (.mv (.const (.int .i64 (0))))⟩]) .ret) .skip)) (.seq (.reg [⟨(some 8), none, (.mv (.tmp 0))⟩, ⟨(some 9), none, (.len false (.tmp 8))⟩, ⟨(some 10), none, (.bin .sub (.tmp 9) (.const (.int .i64 (1))))⟩, ⟨(some 11), none, (.bin .mul (.const (.int .i64 (32))) (.tmp 10))⟩, ⟨(some 12), none, (.mv (.tmp 0))⟩, ⟨(some 13), none, (.mv (.tmp 0))⟩, ⟨(some 14), none, (.len false (.tmp 13))⟩, ⟨(some 15), none, (.bin .sub (.tmp 14) (.const (.int .i64 (1))))⟩, ⟨(some 16), none, (.iaddr 1 none (.tmp 12) (.tmp 15))⟩, ⟨(some 17), none, (.load 1 false (.tmp 16))⟩, ⟨(some 18), none, (.callf (.func 118) [(.tmp 17)])⟩, ⟨(some 19), none, (.bin .add (.tmp 11) (.tmp 18))⟩, ⟨(some 2), none, (.mv (.tmp 19))⟩]) .ret))))
theorem cc93 : ccode Tryd.prog [] (Tryd.f93.body.getD .skip) = some c93 := by kernel_rfl
theorem body93 : Tryd.f93.body = some (Tryd.f93.body.getD .skip) := rfl

theorem bits_C (a : Row) (ha : (osl a).length ≤ 1000000000) : ∃ m : Nat, (m = 0 ↔ a.val = 0) ∧ PureC Tryd.prog 93 [aN a] (.ret (aI (m : Int))) := by
  have hta := trim_C a (by omega)
  change PureC _ _ _ (.ret (aN (trimR a))) at hta
  have hsa := trimR_ds a
  have hla := digits_len_row a
  rw [← hsa] at hla
  generalize trimR a = s at *
  by_cases h0 : (osl s).length = 0
  · refine ⟨0, ⟨fun _ => ?_, fun _ => rfl⟩, ?_⟩
    · rw [hsa] at h0
      exact digits_nil_iff.1 (List.length_eq_zero_iff.1 h0)
    · refine pureC_of (rs := [(RV.tmp 2)]) Tryd.func93 (fun a w => Tryd.call93 a w) body93 cc93 (by kernel_rfl) ?_
      rw [Tryd.ntmps93]
      simp only [frs, Nat.reduceAdd, Nat.reduceSub]
      repeat (first | (with_reducible first | refine Way.imp ?_ | refine blk_o rfl ?_) | ((with_reducible refine WayR.imp (fun K hK => ?_)); simp (disch := first | omega | (simp only [dls]; omega)) only [std, reduceIte, reduceCtorEq, Int.reduceToNat, Nat.reduceAdd, Nat.reduceSub, Nat.reduceMul, Int.reduceAdd, Int.reduceSub, Int.reduceMul, Int.reduceNeg, fU]; subst hK) | refine zcA (hta) rfl rfl rfl ?_)
      exact ⟨_, rfl, Ends.ret_c⟩
  · have hlt : (osl s).length - 1 < (osl s).length := by omega
    have htop : 1 ≤ dgt (osl s) ((osl s).length - 1) := by
      rw [dgt_eq _ _ hlt]
      have hne : osl s ≠ [] := fun e => h0 (by rw [e]; rfl)
      have h1 := digits_trimmed a.val (by rw [← hsa]; exact hne)
      have h2 : (osl s).getLast hne ≠ 0 := by simpa only [hsa] using h1
      rw [List.getLast_eq_getElem] at h2
      have : (osl s)[(osl s).length - 1].toNat ≠ 0 := fun e => h2 (UInt32.toNat_inj.1 (by rw [e]; rfl))
      omega
    obtain ⟨m, hm1, hm2, hm⟩ := len32_C _ htop (dgt_lt _ _)
    refine ⟨32 * ((osl s).length - 1) + m, ⟨fun h => by omega, fun h => ?_⟩, ?_⟩
    · exfalso; apply h0; rw [hsa, h, digits_zero]; rfl
    · have hd := dgt_eq (osl s) ((osl s).length - 1) hlt
      have hi : (((osl s).length : Int) - 1).toNat = (osl s).length - 1 := by omega
      have e : 32 * (((osl s).length : Int) - 1) + (m : Int) = ((32 * ((osl s).length - 1) + m : Nat) : Int) := by omega
      refine pureC_of (rs := [(RV.tmp 2)]) Tryd.func93 (fun a w => Tryd.call93 a w) body93 cc93 (by kernel_rfl) ?_
      rw [Tryd.ntmps93]
      simp only [frs, Nat.reduceAdd, Nat.reduceSub]
      repeat (first | (with_reducible first | refine Way.imp ?_ | refine blk_o rfl ?_) | ((with_reducible refine WayR.imp (fun K hK => ?_)); simp (disch := first | omega | (simp only [dls]; omega)) only [std, reduceIte, reduceCtorEq, Int.reduceToNat, Nat.reduceAdd, Nat.reduceSub, Nat.reduceMul, Int.reduceAdd, Int.reduceSub, Int.reduceMul, Int.reduceNeg, fU, hi, ← hd, e]; subst hK) | refine zcA (hta) rfl rfl rfl ?_ | refine zcA (hm) rfl rfl rfl ?_)
      exact ⟨_, rfl, Ends.ret_c⟩

end Go.Proofs.YtdhkdnmefeeclaaDoor
set_option linter.unusedSimpArgs false
set_option linter.unusedVariables false
set_option maxRecDepth 100000
set_option maxHeartbeats 4000000
namespace Go.Proofs.YtdhkdnmefeeclaaDoor
open Go Go.Am Go.Proofs Go.Off

theorem u32_of {n : Nat} (h : n < 4294967296) : (n : Int) = ((u32 (n : Int)).toNat : Int) := by rw [u32_nat, Nat.mod_eq_of_lt h]

abbrev c89_k1 : CC := (.seq (.reg [⟨(some 66), none, (.load 1 false (.tmp 7))⟩, ⟨(some 67), none, (.callf (.func 90) [(.tmp 66)])⟩, ⟨(some 68), none, (.load 1 false (.tmp 8))⟩, ⟨(some 4), none, (.mv (.tmp 67))⟩, ⟨(some 5), none, (.mv (.tmp 68))⟩, ⟨(some 6), none, (.mv (.const (.int .i64 (0))))⟩]) .ret)
abbrev c89_b1 : CC := (.block 1 (.seq (.reg [⟨(some 27), none, (.mv (.tmp 10))⟩, ⟨(some 28), none, (.mkrow 120 1 [(.tmp 27)])⟩, ⟨(some 29), none, (.load 1 false (.tmp 8))⟩, ⟨(some 30), none, (.append 120 1 4 (.tmp 28) (.tmp 29))⟩, ⟨(some 31), none, (.callf (.func 90) [(.tmp 30)])⟩, ⟨none, none, (.store 1 (.tmp 8) (.tmp 31))⟩]) (.seq (.seq (.reg [⟨(some 32), none, (.load 1 false (.tmp 3))⟩, ⟨(some 33), none, (.len false (.tmp 32))⟩, ⟨(some 34), none, (.bin .eql (.tmp 33) (.const (.int .i64 (1))))⟩]) (.cond (.tmp 34) (.seq (.reg [⟨(some 36), none, (.load 1 false (.tmp 8))⟩, ⟨(some 37), none, (.callf (.func 103) [(.tmp 36)])⟩, ⟨(some 35), none, (.mv (.tmp 37))⟩, ⟨(some 38), none, (.ext (.tmp 35) 0)⟩, ⟨(some 39), none, (.ext (.tmp 35) 1)⟩, ⟨(some 11), none, (.mv (.tmp 38))⟩, ⟨(some 12), none, (.mv (.tmp 39))⟩]) (.seq (.reg [⟨(some 40), none, (.load 1 false (.tmp 7))⟩, ⟨(some 41), none, (.mv (.tmp 9))⟩, ⟨(some 42), none, (.mv (.tmp 11))⟩, ⟨(some 43), none, (.load 1 false (.tmp 3))⟩, ⟨(some 44), none, (.iaddr 1 none (.tmp 43) (.const (.int .i64 (0))))⟩, ⟨(some 45), none, (.load 1 false (.tmp 44))⟩, ⟨(some 46), none, (.conv .u64 (.tmp 45))⟩, ⟨(some 47), none, (.bin .quo (.tmp 42) (.tmp 46))⟩, ⟨(some 48), none, (.conv .u32 (.tmp 47))⟩, ⟨(some 49), none, (.iaddr 1 none (.tmp 40) (.tmp 41))⟩, ⟨none, none, (.store 1 (.tmp 49) (.tmp 48))⟩]) (.seq (.reg [⟨(some 50), none, (.mv (.tmp 11))⟩, ⟨(some 51), none, (.load 1 false (.tmp 3))⟩, ⟨(some 52), none, (.iaddr 1 none (.tmp 51) (.const (.int .i64 (0))))⟩, ⟨(some 53), none, (.load 1 false (.tmp 52))⟩, ⟨(some 54), none, (.conv .u64 (.tmp 53))⟩, ⟨(some 55), none, (.bin .rem (.tmp 50) (.tmp 54))⟩, ⟨(some 56), none, (.callf (.func 59) [(.tmp 55)])⟩, ⟨none, none, (.store 1 (.tmp 8) (.tmp 56))⟩]) (.exit 1)))) .skip)) (.reg [⟨(some 58), none, (.load 1 false (.tmp 7))⟩, ⟨(some 59), none, (.mv (.tmp 9))⟩, ⟨(some 60), none, (.load 1 false (.tmp 8))⟩, ⟨(some 61), none, (.load 1 false (.tmp 3))⟩, ⟨(some 62), none, (.callf (.func 115) [(.tmp 60), (.tmp 61)])⟩, ⟨(some 57), none, (.mv (.tmp 62))⟩, ⟨(some 63), none, (.ext (.tmp 57) 0)⟩, ⟨(some 64), none, (.ext (.tmp 57) 1)⟩, ⟨(some 65), none, (.iaddr 1 none (.tmp 58) (.tmp 59))⟩, ⟨none, none, (.store 1 (.tmp 65) (.tmp 63))⟩, ⟨none, none, (.store 1 (.tmp 8) (.tmp 64))⟩]))))
abbrev c89 : CC := (.seq (.reg [⟨(some 3), none, (.box 41 (.tmp 1))⟩, ⟨(some 4), none, (.mv (.const (.slice none 0 0)))⟩, ⟨(some 5), none, (.mv (.const (.slice none 0 0)))⟩, ⟨(some 6), none, (.mv (.const (.int .i64 (0))))⟩]) (.seq (.reg [⟨(some 13), none, (.mv (.tmp 0))⟩, ⟨(some 14), none, (.callf (.func 90) [(.tmp 13)])⟩, ⟨(some 15), none, (.load 1 false (.tmp 3))⟩, ⟨(some 16), none, (.callf (.func 90) [(.tmp 15)])⟩, ⟨(some 0), none, (.mv (.tmp 14))⟩, ⟨none, none, (.store 1 (.tmp 3) (.tmp 16))⟩]) (.seq (.seq (.reg [⟨(some 17), none, (.load 1 false (.tmp 3))⟩, ⟨(some 18), none, (.len false (.tmp 17))⟩, ⟨(some 19), none, (.bin .eql (.tmp 18) (.const (.int .i64 (0))))⟩]) (.cond (.tmp 19) (.seq (.reg [⟨(some 4), none, (.mv (.const (.slice none 0 0)))⟩, ⟨(some 5), none, (.mv (.const (.slice none 0 0)))⟩, ⟨(some 6), none, (.mv (.const (.int .i64 (5))))⟩]) .ret) .skip)) (.seq (.reg [⟨(some 20), none, (.mv (.tmp 0))⟩, ⟨(some 21), none, (.len false (.tmp 20))⟩, ⟨(some 22), none, (.make 120 1 4 [(.int .u32 (0))] (.tmp 21) (.tmp 21))⟩, ⟨(some 7), none, (.new 41 [(.slice none 0 0)])⟩, ⟨none, none, (.store 1 (.tmp 7) (.tmp 22))⟩]) (.seq (.reg [⟨(some 8), none, (.new 41 [(.slice none 0 0)])⟩]) (.seq (.seq (.reg [⟨(some 23), none, (.mv (.tmp 0))⟩, ⟨(some 24), none, (.callf (.func 113) [(.tmp 23)])⟩]) (.block 0 (.rf (.tmp 24) [25, 26] [(9, 25), (10, 26)] c89_b1))) c89_k1))))))
theorem cc89 : ccode Tryd.prog [] (Tryd.f89.body.getD .skip) = some c89 := by kernel_rfl
theorem body89 : Tryd.f89.body = some (Tryd.f89.body.getD .skip) := rfl

theorem divmod_zero (a b : Row) (ha : (osl a).length ≤ 1000000000) (hb : (osl b).length ≤ 1000000000) (h0 : b.val = 0) : PureC Tryd.prog 89 [aN a, aN b] (.ret (.tup [aN none, aN none, aI 5])) := by
  refine pureC_of (rs := [(RV.tmp 4), (RV.tmp 5), (RV.tmp 6)]) Tryd.func89 (fun a w => Tryd.call89 a w) body89 cc89 (by kernel_rfl) ?_
  rw [Tryd.ntmps89]
  simp only [frs, Nat.reduceAdd, Nat.reduceSub]
  have hta := trim_C a (by omega)
  have htb := trim_C b (by omega)
  change PureC _ _ _ (.ret (aN (trimR a))) at hta
  change PureC _ _ _ (.ret (aN (trimR b))) at htb
  have hsb := trimR_ds b
  rw [h0, digits_zero] at hsb
  have hl : (osl (trimR b)).length = 0 := by rw [hsb]; rfl
  generalize trimR a = s at *
  generalize trimR b = t at *
  repeat (first | (with_reducible first | refine Way.imp ?_ | refine blk_o rfl ?_) | ((with_reducible refine WayR.imp (fun K hK => ?_)); simp (disch := first | omega | (simp only [dls]; omega)) only [std, reduceIte, reduceCtorEq, Int.reduceToNat, Nat.reduceAdd, Nat.reduceSub, Nat.reduceMul, Int.reduceAdd, Int.reduceSub, Int.reduceMul, Int.reduceNeg, fU]; subst hK) | refine zcA (hta) rfl rfl rfl ?_ | refine zcA (htb) rfl rfl rfl ?_)
  exact ⟨_, rfl, rfl⟩

def dmStep (s : List UInt32) (B : Nat) (p : List UInt32 × Row) (k : Fin s.length) : List UInt32 × Row :=
  (p.1.set k.1 (u32 (((dgt s k.1 + 4294967296 * p.2.val) / B : Nat) : Int)), rowN ((dgt s k.1 + 4294967296 * p.2.val) % B))

theorem dm_fold (s : List UInt32) (B : Nat) (hB : 0 < B) (out : List UInt32) (hl : out.length = s.length) :
    let r := (downs s.length s.length).foldl (dmStep s B) (out, none)
    val r.1 = val s / B ∧ r.1.length = s.length ∧ r.2 = if s.length = 0 then none else rowN (val s % B) := by
  have h := foldl_downs s.length (dmStep s B) (fun k p => p.1.length = s.length ∧ val (p.1.drop k) = val (s.drop k) / B ∧ p.2 = if k = s.length then none else rowN (val (s.drop k) % B)) (out, none)
    ⟨hl, by show val (out.drop s.length) = val (s.drop s.length) / B; rw [← hl, List.drop_length, hl, List.drop_length]; simp [val], by simp⟩ (fun k p hp => by
      obtain ⟨h1, h2, h3⟩ := hp
      have hk := k.2
      have hr : p.2.val = val (s.drop (k.1 + 1)) % B := by
        rw [h3]
        split
        · rename_i he
          rw [he, List.drop_length]; simp [val, Row.val, osl]
        · exact rowN_val _
      have e := val_drop s k.1 hk
      rw [← dgt_eq s k.1 hk] at e
      obtain ⟨e1, e2⟩ := div_step (val (s.drop (k.1 + 1))) B (dgt s k.1) hB
      obtain ⟨e3, _⟩ := div_word (H := val (s.drop (k.1 + 1))) hB (dgt_lt s k.1)
      refine ⟨by simp [dmStep, h1], ?_, ?_⟩
      · simp only [dmStep, hr]
        have e4 := val_drop (p.1.set k.1 (u32 (((dgt s k.1 + 4294967296 * (val (s.drop (k.1 + 1)) % B)) / B : Nat) : Int))) k.1 (by rw [List.length_set]; omega)
        rw [e4, List.getElem_set_self, u32_nat, List.drop_set_of_lt (by omega), h2, e]
        show _ = (dgt s k.1 + W * val (s.drop (k.1 + 1))) / B
        rw [e1, Nat.mod_eq_of_lt e3]
      · simp only [dmStep, hr, if_neg (Nat.ne_of_lt hk)]
        rw [e]
        show _ = rowN ((dgt s k.1 + W * val (s.drop (k.1 + 1))) % B)
        rw [e2])
  obtain ⟨h1, h2, h3⟩ := h
  refine ⟨by simpa using h2, h1, ?_⟩
  rw [h3]
  simp only [List.drop_zero]
  by_cases hz : s.length = 0
  · simp [hz]
  · rw [if_neg (fun e => hz e.symm), if_neg hz]

theorem divmod_C (a b : Row) (ha : (osl a).length ≤ 100000000) (hb : (osl b).length ≤ 90000000) (h0 : b.val ≠ 0) :
    PureC Tryd.prog 89 [aN a, aN b] (.ret (.tup [aN (rowN (a.val / b.val)), aN (if a.val = 0 then none else rowN (a.val % b.val)), aI 0])) := by
  refine pureC_of (rs := [(RV.tmp 4), (RV.tmp 5), (RV.tmp 6)]) Tryd.func89 (fun a w => Tryd.call89 a w) body89 cc89 (by kernel_rfl) ?_
  rw [Tryd.ntmps89]
  simp only [frs, Nat.reduceAdd, Nat.reduceSub]
  have hta := trim_C a (by omega)
  have htb := trim_C b (by omega)
  change PureC _ _ _ (.ret (aN (trimR a))) at hta
  change PureC _ _ _ (.ret (aN (trimR b))) at htb
  have hsa := trimR_ds a
  have hsb := trimR_ds b
  have hla := digits_len_row a
  have hlb := digits_len_row b
  rw [← hsa] at hla
  rw [← hsb] at hlb
  have hva : val (osl (trimR a)) = a.val := by rw [hsa, val_digits]
  have hvb : (trimR b).val = b.val := by show val (osl (trimR b)) = _; rw [hsb, val_digits]
  have hdb : digits b.val = osl (trimR b) := hsb.symm
  have hlen : (osl (trimR b)).length ≠ 0 := fun e => h0 (by rw [← hvb]; have e2 := List.length_eq_zero_iff.1 e; show val (osl (trimR b)) = 0; rw [e2]; rfl)
  have hz : (osl (trimR a)).length = 0 ↔ a.val = 0 := by rw [hsa, List.length_eq_zero_iff, digits_nil_iff]
  generalize trimR a = s at *
  generalize trimR b = t at *
  repeat (first | (with_reducible first | refine Way.imp ?_ | refine blk_o rfl ?_) | ((with_reducible refine WayR.imp (fun K hK => ?_)); simp (disch := first | omega | (simp only [dls]; omega)) only [std, reduceIte, reduceCtorEq, Int.reduceToNat, Nat.reduceAdd, Nat.reduceSub, Nat.reduceMul, Int.reduceAdd, Int.reduceSub, Int.reduceMul, Int.reduceNeg, fU, repU]; subst hK) | refine zcA (hta) rfl rfl rfl ?_ | refine zcA (htb) rfl rfl rfl ?_ | refine zcA (backward_C _) rfl rfl rfl ?_)
  refine awp_fold (back_iter s (by omega)) rfl (by simp [closedCell]) (fun (p : List UInt32 × Row) => [⟨0, 41, 1, [[.c (nr t)]], true, true⟩, ⟨0, 120, 1, encB fU p.1, true, true⟩, ⟨0, 41, 1, [[.own 1 0]], true, true⟩, ⟨0, 41, 1, [[.c (nr p.2)]], true, true⟩]) (dmStep (osl s) b.val)
    (fun _ p => p.1.length = (osl s).length ∧ p.2.val < b.val ∧ (osl p.2).length ≤ (osl t).length) (List.replicate (osl s).length 0, none) rfl ⟨List.length_replicate, by show 0 < _; omega, by simp [osl]⟩ ?_ ?_
  · rintro i ⟨out, rest⟩ k _ ⟨hl, hr, hrl⟩
    dsimp only at hl hr hrl
    have hk := k.2
    have hd := dgt_lt (osl s) k.1
    have hdx := dgt_eq (osl s) k.1 hk
    obtain ⟨x, hx⟩ : ∃ x, x = (osl s)[k.1]'k.2 := ⟨_, rfl⟩
    rw [show backAV (osl s) k = [aI (k.1 : Int), aU32 (x.toNat : Nat)] from by rw [hx]]
    rw [← hx] at hdx
    have hst : dmStep (osl s) b.val (out, rest) k = (out.set k.1 (u32 (((x.toNat + 4294967296 * rest.val) / b.val : Nat) : Int)), rowN ((x.toNat + 4294967296 * rest.val) % b.val)) := by unfold dmStep; rw [hdx]
    rw [hst]
    dsimp only
    have ht := trim_C (some (x :: osl rest)) (by simp only [osl_some, List.length_cons]; omega)
    change PureC _ _ _ (.ret (aN (rowN (x.toNat + 4294967296 * rest.val)))) at ht
    have hX := x.toNat_lt
    have hrb : rest.val + 1 ≤ b.val := hr
    have hB : x.toNat + 4294967296 * rest.val < b.val * 4294967296 := by omega
    have hqW : (x.toNat + 4294967296 * rest.val) / b.val < 4294967296 := Nat.div_lt_of_lt_mul hB
    have hmB : (x.toNat + 4294967296 * rest.val) % b.val < b.val := Nat.mod_lt _ (by omega)
    generalize x.toNat + 4294967296 * rest.val = X at *
    have hI : (out.set k.1 (u32 ((X / b.val : Nat) : Int))).length = (osl s).length ∧ (rowN (X % b.val)).val < b.val ∧ (osl (rowN (X % b.val))).length ≤ (osl t).length :=
      ⟨by rw [List.length_set]; exact hl, by rw [rowN_val]; exact hmB, by rw [osl_rowN, ← hdb]; exact digits_len_mono (Nat.le_of_lt hmB)⟩
    have mk1 : [[Cell.c (CV.val (.int .u32 (x.toNat : Int)))]] = encB fU [x] := rfl
    have hdl : (digits X).length ≤ (osl t).length + 1 := by
      have h1 := digits_len_shl b.val 32 (by omega)
      rw [hdb] at h1
      exact Nat.le_trans (digits_len_mono (b := b.val * 2 ^ 32) (by omega)) h1
    simp only [mvT, setps, rnd, Nat.reduceAdd]
    by_cases hone : (osl t).length = 1
    · obtain ⟨d, hd1⟩ := List.length_eq_one_iff.1 hone
      have hbd : b.val = d.toNat := by rw [← hvb]; show val (osl t) = _; rw [hd1]; simp [val]
      have hdlt := d.toNat_lt
      have hd0 : (osl t)[0].toNat = b.val := by rw [hbd]; simp only [hd1, List.getElem_cons_zero]
      have hsm := small_C (rowN X) (by rw [osl_rowN]; omega) (by rw [rowN_val]; omega)
      rw [rowN_val] at hsm
      have hof := of_C (X % b.val) (by omega)
      have hq : (X : Int).tdiv (b.val : Int) = ((X / b.val : Nat) : Int) := by rw [tdiv_nn (by omega)]; simp
      have hm : (X : Int).tmod (b.val : Int) = ((X % b.val : Nat) : Int) := by rw [tmod_nn (by omega)]; simp
      generalize X / b.val = Qt at *
      generalize X % b.val = Rm at *
      repeat (first | (with_reducible first | refine Way.imp ?_ | refine blk_o rfl ?_) | ((with_reducible refine WayR.imp (fun K hK => ?_)); simp (disch := first | omega | (simp only [dls]; omega)) only [std, reduceIte, reduceCtorEq, Int.reduceToNat, Nat.reduceAdd, Nat.reduceSub, Nat.reduceMul, Int.reduceAdd, Int.reduceSub, Int.reduceMul, Int.reduceNeg, fU, mk1, encB_append, hd0, hq, hm, conv_u32, setU]; subst hK) | (apply call_ret (ht) rfl; (case hcl => (simp only [evs, St.ev, constAV, evl]; (repeat (first | exact closeAVs_nil | (apply closeAVs_cons; (first | (refine close_own3 rfl (by decide)) | (refine close_ownO rfl (by decide) ?_; assumption) | rfl)))); done)); (case hf => rfl); (case hu => (simp only [evs, St.ev, constAV, evl]; (repeat (first | exact used_nil | (apply used_cons; (first | (apply used_own3; rfl) | rfl)))); done)); (case hh => ((simp only [fzl, Nat.reduceBEq, Nat.reduceAdd, Bool.false_eq_true, if_true, if_false, reduceIte]) <;> rfl))) | refine zcA (hsm) rfl rfl rfl ?_ | refine zcA (hof) rfl rfl rfl ?_)
      refine ⟨_, ⟨rfl, ?hI1⟩, _, Fgt.head (Nat.le_refl _) [] rfl ?hH1⟩
      case hH1 => first | (simp (disch := omega) only [hds, liveT, cleanAV, cleanCell, clean1, cleanBlk, reduceIte, Int.reduceSub, Int.reduceAdd, Int.reduceNeg]; done) | rfl
      exact hI
    · have hdg := digit_C X t (by omega) (by omega) (by rw [hvb]; omega)
      rw [hvb, u32_of hqW] at hdg
      repeat (first | (with_reducible first | refine Way.imp ?_ | refine blk_o rfl ?_) | ((with_reducible refine WayR.imp (fun K hK => ?_)); simp (disch := first | omega | (simp only [dls]; omega)) only [std, reduceIte, reduceCtorEq, Int.reduceToNat, Nat.reduceAdd, Nat.reduceSub, Nat.reduceMul, Int.reduceAdd, Int.reduceSub, Int.reduceMul, Int.reduceNeg, fU, mk1, encB_append, setU]; subst hK) | (apply call_ret (ht) rfl; (case hcl => (simp only [evs, St.ev, constAV, evl]; (repeat (first | exact closeAVs_nil | (apply closeAVs_cons; (first | (refine close_own3 rfl (by decide)) | (refine close_ownO rfl (by decide) ?_; assumption) | rfl)))); done)); (case hf => rfl); (case hu => (simp only [evs, St.ev, constAV, evl]; (repeat (first | exact used_nil | (apply used_cons; (first | (apply used_own3; rfl) | rfl)))); done)); (case hh => ((simp only [fzl, Nat.reduceBEq, Nat.reduceAdd, Bool.false_eq_true, if_true, if_false, reduceIte]) <;> rfl))) | refine zcA (hdg) rfl rfl rfl ?_)
      refine ⟨_, ⟨rfl, ?hI2⟩, _, Fgt.head (Nat.le_refl _) [] rfl ?hH2⟩
      case hH2 => first | (simp (disch := omega) only [hds, liveT, cleanAV, cleanCell, clean1, cleanBlk, reduceIte, Int.reduceSub, Int.reduceAdd, Int.reduceNeg]; done) | rfl
      exact hI
  · rintro ⟨h1, h2, h3⟩
    obtain ⟨e1, e2, e3⟩ := dm_fold (osl s) b.val (by omega) (List.replicate (osl s).length 0) List.length_replicate
    generalize (downs (osl s).length (osl s).length).foldl (dmStep (osl s) b.val) (List.replicate (osl s).length 0, none) = r at *
    obtain ⟨out, rest⟩ := r
    dsimp only at *
    have ht := trim_C (some out) (by simp only [osl_some]; omega)
    rw [Option.map_some] at ht
    repeat (first | (with_reducible first | refine Way.imp ?_ | refine blk_o rfl ?_) | ((with_reducible refine WayR.imp (fun K hK => ?_)); simp (disch := first | omega | (simp only [dls]; omega)) only [std, reduceIte, reduceCtorEq, Int.reduceToNat, Nat.reduceAdd, Nat.reduceSub, Nat.reduceMul, Int.reduceAdd, Int.reduceSub, Int.reduceMul, Int.reduceNeg, fU]; subst hK) | (apply call_ret (ht) rfl; (case hcl => (simp only [evs, St.ev, constAV, evl]; (repeat (first | exact closeAVs_nil | (apply closeAVs_cons; (first | (refine close_own3 rfl (by decide)) | (refine close_ownO rfl (by decide) ?_; assumption) | rfl)))); done)); (case hf => rfl); (case hu => (simp only [evs, St.ev, constAV, evl]; (repeat (first | exact used_nil | (apply used_cons; (first | (apply used_own3; rfl) | rfl)))); done)); (case hh => ((simp only [fzl, Nat.reduceBEq, Nat.reduceAdd, Bool.false_eq_true, if_true, if_false, reduceIte]) <;> rfl))))
    refine ⟨_, rfl, ?_⟩
    rw [hva] at e1 e3
    rw [e1, e3]
    simp only [hz]
    exact rfl
end Go.Proofs.YtdhkdnmefeeclaaDoor
set_option linter.unusedSimpArgs false
set_option linter.unusedVariables false
set_option maxRecDepth 100000
set_option maxHeartbeats 4000000
namespace Go.Proofs.YtdhkdnmefeeclaaDoor
open Go Go.Am Go.Proofs Go.Off

abbrev c88_k1 : CC := (.seq (.reg [⟨(some 24), none, (.mv (.tmp 0))⟩, ⟨(some 4), none, (.mv (.tmp 24))⟩]) .ret)
abbrev c88_b1 : CC := (.seq (.seq (.reg [⟨(some 12), none, (.mv (.tmp 1))⟩, ⟨(some 13), none, (.len false (.tmp 12))⟩, ⟨(some 14), none, (.bin .gtr (.tmp 13) (.const (.int .i64 (0))))⟩]) (.cond (.tmp 14) .skip (.exit 0))) (.block 1 (.seq (.reg [⟨(some 16), none, (.mv (.tmp 0))⟩, ⟨(some 17), none, (.mv (.tmp 1))⟩, ⟨(some 18), none, (.callf (.func 89) [(.tmp 16), (.tmp 17)])⟩, ⟨(some 15), none, (.mv (.tmp 18))⟩, ⟨(some 19), none, (.ext (.tmp 15) 0)⟩, ⟨(some 20), none, (.ext (.tmp 15) 1)⟩, ⟨(some 21), none, (.ext (.tmp 15) 2)⟩, ⟨(some 5), none, (.mv (.tmp 19))⟩, ⟨(some 6), none, (.mv (.tmp 20))⟩, ⟨(some 7), none, (.mv (.tmp 21))⟩]) (.reg [⟨(some 22), none, (.mv (.tmp 1))⟩, ⟨(some 23), none, (.mv (.tmp 6))⟩, ⟨(some 0), none, (.mv (.tmp 22))⟩, ⟨(some 1), none, (.mv (.tmp 23))⟩]))))
abbrev c88 : CC := (.seq (.reg [⟨(some 4), none, (.mv (.const (.slice none 0 0)))⟩]) (.seq (.reg [⟨(some 8), none, (.mv (.tmp 0))⟩, ⟨(some 9), none, (.callf (.func 90) [(.tmp 8)])⟩, ⟨(some 10), none, (.mv (.tmp 1))⟩, ⟨(some 11), none, (.callf (.func 90) [(.tmp 10)])⟩, ⟨(some 0), none, (.mv (.tmp 9))⟩, ⟨(some 1), none, (.mv (.tmp 11))⟩]) (.seq (.block 0 (.loop c88_b1)) c88_k1)))
theorem cc88 : ccode Tryd.prog [] (Tryd.f88.body.getD .skip) = some c88 := by kernel_rfl
theorem body88 : Tryd.f88.body = some (Tryd.f88.body.getD .skip) := rfl

theorem gcd_C (a b : Row) (ha : (osl a).length ≤ 80000000) (hb : (osl b).length ≤ 80000000) (h0 : b.val ≠ 0) : PureC Tryd.prog 88 [aN a, aN b] (.ret (aN (rowN (Nat.gcd a.val b.val)))) := by
  refine pureC_of (rs := [(RV.tmp 4)]) Tryd.func88 (fun a w => Tryd.call88 a w) body88 cc88 (by kernel_rfl) ?_
  rw [Tryd.ntmps88]
  simp only [frs, Nat.reduceAdd, Nat.reduceSub]
  have hta := trim_C a (by omega)
  have htb := trim_C b (by omega)
  change PureC _ _ _ (.ret (aN (trimR a))) at hta
  change PureC _ _ _ (.ret (aN (trimR b))) at htb
  have hsa := trimR_ds a
  have hsb := trimR_ds b
  have hla := digits_len_row a
  have hlb := digits_len_row b
  rw [← hsa] at hla
  rw [← hsb] at hlb
  have hva : (trimR a).val = a.val := by show val (osl (trimR a)) = _; rw [hsa, val_digits]
  have hvb : (trimR b).val = b.val := by show val (osl (trimR b)) = _; rw [hsb, val_digits]
  have hrb : trimR b = rowN b.val := by
    cases b with
    | none => exact absurd rfl h0
    | some l => rfl
  generalize trimR a = s at *
  repeat (first | (with_reducible first | refine Way.imp ?_ | refine blk_o rfl ?_) | ((with_reducible refine WayR.imp (fun K hK => ?_)); simp (disch := first | omega | (simp only [dls]; omega)) only [std, reduceIte, reduceCtorEq, Int.reduceToNat, Nat.reduceAdd, Nat.reduceSub, Nat.reduceMul, Int.reduceAdd, Int.reduceSub, Int.reduceMul, Int.reduceNeg, fU]; subst hK) | refine zcA (hta) rfl rfl rfl ?_ | refine zcA (htb) rfl rfl rfl ?_)
  refine awp_loop (fun (zz : Row × Row) => ⟨(aN zz.1 :: aN zz.2 :: .junk :: .junk :: .one (.c (.val (.slice none 0 0))) :: .junk :: .junk :: .junk :: .junk :: .junk :: .junk :: .junk :: .junk :: .junk :: .junk :: .junk :: .junk :: .junk :: .junk :: .junk :: .junk :: .junk :: .junk :: .junk :: .junk :: []), []⟩) (fun (zz : Row × Row) => Nat.gcd zz.1.val zz.2.val = Nat.gcd a.val b.val ∧ osl zz.2 = digits zz.2.val ∧ (zz.2.val ≠ 0 → zz.2 = rowN zz.2.val) ∧ (zz.2.val = 0 → zz.1 = rowN zz.1.val) ∧ (osl zz.1).length ≤ 80000000 ∧ (osl zz.2).length ≤ 80000000) (fun (zz : Row × Row) => zz.2.val) (s, trimR b) ?hI1 (Fgt.head (Nat.le_refl _) [true, true, false, false, true] ?hT1 ?hH1) ?hB1
  case hT1 => first | (simp (disch := omega) only [hds, liveT, cleanAV, cleanCell, clean1, cleanBlk, reduceIte, Int.reduceSub, Int.reduceAdd, Int.reduceNeg]; done) | rfl
  case hH1 => first | (simp (disch := omega) only [hds, liveT, cleanAV, cleanCell, clean1, cleanBlk, reduceIte, Int.reduceSub, Int.reduceAdd, Int.reduceNeg]; done) | rfl
  · dsimp only
    exact ⟨by rw [hva, hvb], by rw [hvb]; exact hsb, fun _ => by rw [hvb]; exact hrb, fun h => absurd (hvb ▸ h) h0, by omega, by omega⟩
  rintro ⟨A, B⟩ ⟨hg, hB, hB1, hB2, hlA, hlB⟩
  dsimp only at hg hB hB1 hB2 hlA hlB
  by_cases hz : B.val = 0
  · have hl : (osl B).length = 0 := by rw [hB, hz, digits_zero]; rfl
    repeat (first | (with_reducible first | refine Way.imp ?_ | refine blk_o rfl ?_) | ((with_reducible refine WayR.imp (fun K hK => ?_)); simp (disch := first | omega | (simp only [dls]; omega)) only [std, reduceIte, reduceCtorEq, Int.reduceToNat, Nat.reduceAdd, Nat.reduceSub, Nat.reduceMul, Int.reduceAdd, Int.reduceSub, Int.reduceMul, Int.reduceNeg, fU]; subst hK))
    refine ⟨_, rfl, ?_⟩
    rw [hz, Nat.gcd_zero_right] at hg
    rw [← hg, ← hB2 hz]
    exact rfl
  · have hl : (osl B).length ≠ 0 := by rw [hB]; exact Nat.ne_of_gt (digits_len_pos hz)
    have hdm := divmod_C A B (by omega) (by omega) hz
    have hmod := Nat.mod_lt A.val (Nat.pos_of_ne_zero hz)
    obtain ⟨R, hR⟩ : ∃ R : Row, (if A.val = 0 then none else rowN (A.val % B.val)) = R := ⟨_, rfl⟩
    rw [hR] at hdm
    have hRv : R.val = A.val % B.val := by
      rw [← hR]; split
      · rename_i h; rw [h, Nat.zero_mod]; rfl
      · exact rowN_val _
    have hRd : osl R = digits R.val := by
      rw [hRv, ← hR]; split
      · rename_i h; rw [h, Nat.zero_mod, digits_zero]; rfl
      · rfl
    have hR1 : R.val ≠ 0 → R = rowN R.val := fun h => by
      rw [hRv, ← hR]
      rw [if_neg]
      intro h2; apply h; rw [hRv, h2, Nat.zero_mod]
    repeat (first | (with_reducible first | refine Way.imp ?_ | refine blk_o rfl ?_) | ((with_reducible refine WayR.imp (fun K hK => ?_)); simp (disch := first | omega | (simp only [dls]; omega)) only [std, reduceIte, reduceCtorEq, Int.reduceToNat, Nat.reduceAdd, Nat.reduceSub, Nat.reduceMul, Int.reduceAdd, Int.reduceSub, Int.reduceMul, Int.reduceNeg, fU]; subst hK) | refine zcA (hdm) rfl rfl rfl ?_)
    refine ⟨(B, R), ?hI2, ?hM2, Fgt.head (Nat.le_refl _) [true, true, false, false, true] ?hT2 ?hH2⟩
    case hT2 => first | (simp (disch := omega) only [hds, liveT, cleanAV, cleanCell, clean1, cleanBlk, reduceIte, Int.reduceSub, Int.reduceAdd, Int.reduceNeg]; done) | rfl
    case hH2 => first | (simp (disch := omega) only [hds, liveT, cleanAV, cleanCell, clean1, cleanBlk, reduceIte, Int.reduceSub, Int.reduceAdd, Int.reduceNeg]; done) | rfl
    · dsimp only
      refine ⟨by rw [hRv, gcd_step, hg], hRd, hR1, fun _ => hB1 hz, hlB, ?_⟩
      rw [hRd, hRv]
      have := digits_len_mono (Nat.le_of_lt hmod)
      rw [← hB] at this
      omega
    · dsimp only; omega
end Go.Proofs.YtdhkdnmefeeclaaDoor
set_option linter.unusedSimpArgs false
set_option linter.unusedVariables false
set_option maxRecDepth 100000
set_option maxHeartbeats 4000000
namespace Go.Proofs.YtdhkdnmefeeclaaDoor
open Go Go.Am Go.Proofs Go.Off

def f8 (c : UInt8) : List CV := [.val (.int .u8 (c.toNat : Int))]
abbrev aS (s : List UInt8) : AV := .one (.c (.str s))

abbrev c104_b1 : CC := (.seq (.seq (.reg [⟨(some 7), none, (.mv (.tmp 2))⟩, ⟨(some 8), none, (.mv (.tmp 3))⟩, ⟨(some 9), none, (.bin .lss (.tmp 7) (.tmp 8))⟩]) (.cond (.tmp 9) .skip (.exit 0))) (.seq (.block 1 (.reg [⟨(some 14), none, (.mv (.tmp 0))⟩, ⟨(some 15), none, (.mv (.tmp 2))⟩, ⟨(some 16), none, (.mv (.tmp 0))⟩, ⟨(some 17), none, (.mv (.tmp 3))⟩, ⟨(some 18), none, (.mv (.tmp 0))⟩, ⟨(some 19), none, (.mv (.tmp 3))⟩, ⟨(some 20), none, (.iaddr 1 none (.tmp 18) (.tmp 19))⟩, ⟨(some 21), none, (.load 1 false (.tmp 20))⟩, ⟨(some 22), none, (.mv (.tmp 0))⟩, ⟨(some 23), none, (.mv (.tmp 2))⟩, ⟨(some 24), none, (.iaddr 1 none (.tmp 22) (.tmp 23))⟩, ⟨(some 25), none, (.load 1 false (.tmp 24))⟩, ⟨(some 26), none, (.iaddr 1 none (.tmp 14) (.tmp 15))⟩, ⟨none, none, (.store 1 (.tmp 26) (.tmp 21))⟩, ⟨(some 27), none, (.iaddr 1 none (.tmp 16) (.tmp 17))⟩, ⟨none, none, (.store 1 (.tmp 27) (.tmp 25))⟩])) (.reg [⟨(some 10), none, (.mv (.tmp 2))⟩, ⟨(some 11), none, (.bin .add (.tmp 10) (.const (.int .i64 (1))))⟩, ⟨(some 12), none, (.mv (.tmp 3))⟩, ⟨(some 13), none, (.bin .sub (.tmp 12) (.const (.int .i64 (1))))⟩, ⟨(some 2), none, (.mv (.tmp 11))⟩, ⟨(some 3), none, (.mv (.tmp 13))⟩])))
abbrev c104 : CC := (.seq (.reg [⟨(some 4), none, (.mv (.tmp 0))⟩, ⟨(some 5), none, (.len false (.tmp 4))⟩, ⟨(some 6), none, (.bin .sub (.tmp 5) (.const (.int .i64 (1))))⟩, ⟨(some 2), none, (.mv (.const (.int .i64 (0))))⟩, ⟨(some 3), none, (.mv (.tmp 6))⟩]) (.block 0 (.loop c104_b1)))
theorem cc104 : ccode Tryd.prog [] (Tryd.f104.body.getD .skip) = some c104 := by kernel_rfl
theorem body104 : Tryd.f104.body = some (Tryd.f104.body.getD .skip) := rfl

def revTo (out : List UInt8) (i : Nat) : List UInt8 := (List.range out.length).map fun k => if k < i ∨ out.length - 1 - k < i then out.getD (out.length - 1 - k) 0 else out.getD k 0
theorem revTo_len (out : List UInt8) (i : Nat) : (revTo out i).length = out.length := by simp [revTo]
theorem revTo_zero (out : List UInt8) : revTo out 0 = out := by
  apply List.ext_getElem
  · simp [revTo]
  · intro k h1 h2; simp [revTo, h2]
theorem revTo_done (out : List UInt8) (i : Nat) (h : out.length ≤ 2 * i + 1) : revTo out i = out.reverse := by
  apply List.ext_getElem
  · simp [revTo]
  · intro k h1 h2
    simp only [List.length_reverse] at h2
    simp only [revTo, List.getElem_map, List.getElem_range, List.getElem_reverse]
    have h3 : out.length - 1 - k < out.length := by omega
    by_cases hc : k < i ∨ out.length - 1 - k < i
    · rw [if_pos hc]; simp [h3]
    · rw [if_neg hc]
      have : out.length - 1 - k = k := by omega
      simp [h2, this]
theorem revTo_step (out : List UInt8) (i : Nat) (h : 2 * i + 1 < out.length) : revTo out (i + 1) = ((revTo out i).set i ((revTo out i).getD (out.length - 1 - i) 0)).set (out.length - 1 - i) ((revTo out i).getD i 0) := by
  apply List.ext_getElem
  · simp [revTo]
  · intro k h1 h2
    simp only [revTo_len] at h1
    simp only [List.getElem_set]
    have g : ∀ m, m < out.length → (revTo out i).getD m 0 = if m < i ∨ out.length - 1 - m < i then out.getD (out.length - 1 - m) 0 else out.getD m 0 := fun m hm => by
      simp only [revTo]
      simp [hm]
    have g2 : ∀ (m j : Nat) (hm : m < (revTo out j).length), (revTo out j)[m] = if m < j ∨ out.length - 1 - m < j then out.getD (out.length - 1 - m) 0 else out.getD m 0 := fun m j hm => by
      simp only [revTo, List.getElem_map, List.getElem_range]
    simp only [g i (by omega), g (out.length - 1 - i) (by omega), g2]
    have e : out.length - 1 - (out.length - 1 - i) = i := by omega
    rw [e]
    simp only [show ¬(i < i ∨ out.length - 1 - i < i) from by omega, show ¬(out.length - 1 - i < i ∨ i < i) from by omega, if_false]
    by_cases h3 : out.length - 1 - i = k
    · rw [if_pos h3, if_pos (by omega)]
      congr 1; omega
    · rw [if_neg h3]
      by_cases h4 : i = k
      · rw [if_pos h4, if_pos (by omega), h4]
      · rw [if_neg h4]
        by_cases h5 : k < i ∨ out.length - 1 - k < i
        · rw [if_pos h5, if_pos (by omega)]
        · rw [if_neg h5, if_neg (by omega)]

theorem set8 (l : List UInt8) (i : Nat) (x : UInt8) : (encB f8 l).set i [Cell.c (.val (.int .u8 (x.toNat : Int)))] = encB f8 (l.set i x) := encB_set l i x

theorem reverse_C (out : List UInt8) (v : Nat) (h1 : 1 ≤ out.length) (h2 : out.length ≤ 1000000000) : OpenC Tryd.prog 104 [.one (.own 0 v)] [⟨v, 5, 1, encB f8 out, true, true⟩] (.tup []) [⟨v, 5, 1, encB f8 out.reverse, true, true⟩] := by
  refine openC_of (rs := []) Tryd.func104 (fun a w => Tryd.call104 a w) body104 cc104 (by kernel_rfl) ?_
  rw [Tryd.ntmps104]
  simp only [frs, Nat.reduceAdd, Nat.reduceSub]
  repeat (first | (with_reducible first | refine Way.imp ?_ | refine blk_o rfl ?_) | ((with_reducible refine WayR.imp (fun K hK => ?_)); simp (disch := first | omega | (simp only [dls]; omega)) only [std, reduceIte, reduceCtorEq, Int.reduceToNat, Nat.reduceAdd, Nat.reduceSub, Nat.reduceMul, Int.reduceAdd, Int.reduceSub, Int.reduceMul, Int.reduceNeg, fU]; subst hK))
  refine awp_loop (fun (zz : Nat) => ⟨(.one (.own 0 v) :: .junk :: aI zz :: aI ((out.length : Int) - 1 - zz) :: .junk :: .junk :: .junk :: .junk :: .junk :: .junk :: .junk :: .junk :: .junk :: .junk :: .junk :: .junk :: .junk :: .junk :: .junk :: .junk :: .junk :: .junk :: .junk :: .junk :: .junk :: .junk :: .junk :: .junk :: []), [⟨v, 5, 1, encB f8 (revTo out zz), true, true⟩]⟩) (fun (zz : Nat) => 2 * zz ≤ out.length) (fun (zz : Nat) => out.length - zz) (0) ?hI1 (Fgt.head (Nat.le_refl _) [true, false, true, true] ?hT1 ?hH1) ?hB1
  case hT1 => first | (simp (disch := omega) only [hds, liveT, cleanAV, cleanCell, clean1, cleanBlk, reduceIte, Int.reduceSub, Int.reduceAdd, Int.reduceNeg, Int.sub_zero, revTo_zero]; done) | rfl
  case hH1 => first | (simp (disch := omega) only [hds, liveT, cleanAV, cleanCell, clean1, cleanBlk, reduceIte, Int.reduceSub, Int.reduceAdd, Int.reduceNeg, Int.sub_zero, revTo_zero]; done) | rfl
  · exact Nat.zero_le _
  intro i hi
  by_cases hlt : 2 * i + 1 < out.length
  · have hL := revTo_len out i
    have hj : ((out.length : Int) - 1 - i).toNat = out.length - 1 - i := by omega
    have hst := revTo_step out i hlt
    have g1 : (revTo out i).getD i 0 = (revTo out i)[i]'(by omega) := by rw [List.getD_eq_getElem?_getD, List.getElem?_eq_getElem (by omega)]; rfl
    have g2 : (revTo out i).getD (out.length - 1 - i) 0 = (revTo out i)[out.length - 1 - i]'(by omega) := by rw [List.getD_eq_getElem?_getD, List.getElem?_eq_getElem (by omega)]; rfl
    rw [g1, g2] at hst
    have hc : ((out.length : Int) - 1 - i) - 1 = (out.length : Int) - 1 - (i + 1 : Nat) := by omega
    repeat (first | (with_reducible first | refine Way.imp ?_ | refine blk_o rfl ?_) | ((with_reducible refine WayR.imp (fun K hK => ?_)); simp (disch := first | omega | (simp only [dls]; omega)) only [std, reduceIte, reduceCtorEq, Int.reduceToNat, Nat.reduceAdd, Nat.reduceSub, Nat.reduceMul, Int.reduceAdd, Int.reduceSub, Int.reduceMul, Int.reduceNeg, fU, hj, hL, f8, set8]; subst hK))
    refine ⟨(i + 1), ?hI2, ?hM2, Fgt.head (Nat.le_refl _) [true, false, true, true] ?hT2 ?hH2⟩
    case hT2 => first | (simp (disch := omega) only [hds, liveT, cleanAV, cleanCell, clean1, cleanBlk, reduceIte, Int.reduceSub, Int.reduceAdd, Int.reduceNeg, hst, hc]; done) | rfl
    case hH2 => first | (simp (disch := omega) only [hds, liveT, cleanAV, cleanCell, clean1, cleanBlk, reduceIte, Int.reduceSub, Int.reduceAdd, Int.reduceNeg, hst, hc]; done) | rfl
    · omega
    · omega
  · have hd := revTo_done out i (by omega)
    rw [hd]
    repeat (first | (with_reducible first | refine Way.imp ?_ | refine blk_o rfl ?_) | ((with_reducible refine WayR.imp (fun K hK => ?_)); simp (disch := first | omega | (simp only [dls]; omega)) only [std, reduceIte, reduceCtorEq, Int.reduceToNat, Nat.reduceAdd, Nat.reduceSub, Nat.reduceMul, Int.reduceAdd, Int.reduceSub, Int.reduceMul, Int.reduceNeg, fU]; subst hK))
    exact ⟨rfl, rfl⟩
end Go.Proofs.YtdhkdnmefeeclaaDoor
set_option linter.unusedSimpArgs false
set_option linter.unusedVariables false
set_option maxRecDepth 100000
set_option maxHeartbeats 4000000
namespace Go.Proofs.YtdhkdnmefeeclaaDoor
open Go Go.Am Go.Proofs Go.Off

theorem byteCells_enc (l : List UInt8) : byteCells (encB f8 l) = some l := by
  induction l with
  | nil => rfl
  | cons c l ih =>
    have e : encB f8 (c :: l) = [Cell.c (.val (.int .u8 (c.toNat : Int)))] :: encB f8 l := rfl
    rw [e]
    simp only [byteCells, ih, Option.map_some, Int.toNat_natCast]
    congr 2
    exact UInt8.ofNat_toNat
theorem ten_bound {m L X : Nat} (h1 : 10 ^ m ≤ X) (h2 : X < 4294967296 ^ L) : m ≤ 10 * L := by
  have h3 : (4294967296 : Nat) ^ L ≤ (10 ^ 10) ^ L := Nat.pow_le_pow_left (by decide) L
  rw [← Nat.pow_mul] at h3
  refine Decidable.byContradiction fun h => ?_
  have h4 : (10 : Nat) ^ (10 * L) ≤ 10 ^ m := Nat.pow_le_pow_right (by decide) (by omega)
  omega
theorem rv_snoc (out : List UInt8) (d : Nat) (hd : d < 10) : rv (out ++ [chr d]) = rv out + 10 ^ out.length * d := by
  rw [rv_append]
  simp [rv, chr_toNat hd]

abbrev c76_k1 : CC := (.seq (.seq (.reg [⟨(some 56), none, (.mv (.tmp 3))⟩, ⟨(some 57), none, (.len false (.tmp 56))⟩, ⟨(some 58), none, (.bin .eql (.tmp 57) (.const (.int .i64 (0))))⟩]) (.cond (.tmp 58) (.seq (.reg [⟨(some 2), none, (.mv (.const (.string ⟨#[48]⟩)))⟩]) .ret) .skip)) (.seq (.reg [⟨(some 59), none, (.mv (.tmp 3))⟩, ⟨(some 60), none, (.callf (.func 104) [(.tmp 59)])⟩]) (.seq (.reg [⟨(some 61), none, (.mv (.tmp 3))⟩, ⟨(some 62), none, (.bstr (.tmp 61))⟩, ⟨(some 2), none, (.mv (.tmp 62))⟩]) .ret)))
abbrev c76_b1 : CC := (.seq (.seq (.reg [⟨(some 39), none, (.mv (.tmp 3))⟩, ⟨(some 40), none, (.len false (.tmp 39))⟩, ⟨(some 41), none, (.bin .gtr (.tmp 40) (.const (.int .i64 (1))))⟩, ⟨(some 42), none, (.mv (.tmp 41))⟩, ⟨(some 43), (some (42, true)), (.mv (.tmp 3))⟩, ⟨(some 44), (some (42, true)), (.mv (.tmp 3))⟩, ⟨(some 45), (some (42, true)), (.len false (.tmp 44))⟩, ⟨(some 46), (some (42, true)), (.bin .sub (.tmp 45) (.const (.int .i64 (1))))⟩, ⟨(some 47), (some (42, true)), (.iaddr 1 none (.tmp 43) (.tmp 46))⟩, ⟨(some 48), (some (42, true)), (.load 1 false (.tmp 47))⟩, ⟨(some 49), (some (42, true)), (.bin .eql (.tmp 48) (.const (.int .u8 (48))))⟩, ⟨(some 50), none, (.pick (.tmp 42) (.tmp 49) (.const (.bool false)))⟩]) (.cond (.tmp 50) .skip (.exit 4))) (.block 5 (.reg [⟨(some 51), none, (.mv (.tmp 3))⟩, ⟨(some 52), none, (.mv (.tmp 3))⟩, ⟨(some 53), none, (.len false (.tmp 52))⟩, ⟨(some 54), none, (.bin .sub (.tmp 53) (.const (.int .i64 (1))))⟩, ⟨(some 55), none, (.slice 1 (.tmp 51) none (some (.tmp 54)) none)⟩, ⟨(some 3), none, (.mv (.tmp 55))⟩])))
abbrev c76_k2 : CC := (.seq (.block 4 (.loop c76_b1)) c76_k1)
abbrev c76_k3 : CC := (.reg [⟨(some 38), none, (.mv (.tmp 4))⟩, ⟨(some 0), none, (.mv (.tmp 38))⟩])
abbrev c76_b2 : CC := (.seq (.reg [⟨(some 27), none, (.bin .lss (.tmp 26) (.const (.int .i64 (9))))⟩]) (.seq (.cond (.tmp 27) .skip (.exit 2)) (.seq (.block 3 (.seq (.reg [⟨(some 28), none, (.mv (.tmp 3))⟩, ⟨(some 29), none, (.mv (.tmp 7))⟩, ⟨(some 30), none, (.bin .rem (.tmp 29) (.const (.int .u64 (10))))⟩, ⟨(some 31), none, (.bin .add (.const (.int .u64 (48))) (.tmp 30))⟩, ⟨(some 32), none, (.conv .u8 (.tmp 31))⟩, ⟨(some 33), none, (.mkrow 5 1 [(.tmp 32)])⟩, ⟨(some 34), none, (.append 5 1 1 (.tmp 28) (.tmp 33))⟩, ⟨(some 3), none, (.mv (.tmp 34))⟩]) (.reg [⟨(some 35), none, (.mv (.tmp 7))⟩, ⟨(some 36), none, (.bin .quo (.tmp 35) (.const (.int .u64 (10))))⟩, ⟨(some 7), none, (.mv (.tmp 36))⟩]))) (.reg [⟨(some 37), none, (.bin .add (.tmp 26) (.const (.int .i64 (1))))⟩, ⟨(some 26), none, (.mv (.tmp 37))⟩]))))
abbrev c76_b3 : CC := (.seq (.seq (.reg [⟨(some 11), none, (.mv (.tmp 0))⟩, ⟨(some 12), none, (.len false (.tmp 11))⟩, ⟨(some 13), none, (.bin .gtr (.tmp 12) (.const (.int .i64 (0))))⟩]) (.cond (.tmp 13) .skip (.exit 0))) (.block 1 (.seq (.reg [⟨(some 15), none, (.mv (.tmp 0))⟩, ⟨(some 16), none, (.callf (.func 59) [(.const (.int .u64 (1000000000)))])⟩, ⟨(some 17), none, (.callf (.func 89) [(.tmp 15), (.tmp 16)])⟩, ⟨(some 14), none, (.mv (.tmp 17))⟩, ⟨(some 18), none, (.ext (.tmp 14) 0)⟩, ⟨(some 19), none, (.ext (.tmp 14) 1)⟩, ⟨(some 20), none, (.ext (.tmp 14) 2)⟩, ⟨(some 4), none, (.mv (.tmp 18))⟩, ⟨(some 5), none, (.mv (.tmp 19))⟩, ⟨(some 6), none, (.mv (.tmp 20))⟩]) (.seq (.reg [⟨(some 22), none, (.mv (.tmp 5))⟩, ⟨(some 23), none, (.callf (.func 103) [(.tmp 22)])⟩, ⟨(some 21), none, (.mv (.tmp 23))⟩, ⟨(some 24), none, (.ext (.tmp 21) 0)⟩, ⟨(some 25), none, (.ext (.tmp 21) 1)⟩, ⟨(some 7), none, (.mv (.tmp 24))⟩, ⟨(some 8), none, (.mv (.tmp 25))⟩]) (.seq (.seq (.reg [⟨(some 26), none, (.mv (.const (.int .i64 (0))))⟩]) (.block 2 (.loop c76_b2))) c76_k3)))))
abbrev c76 : CC := (.seq (.reg [⟨(some 2), none, (.mv (.const (.string ⟨#[]⟩)))⟩]) (.seq (.reg [⟨(some 3), none, (.mv (.const (.slice none 0 0)))⟩]) (.seq (.seq (.reg [⟨(some 9), none, (.mv (.tmp 0))⟩, ⟨(some 10), none, (.callf (.func 90) [(.tmp 9)])⟩, ⟨(some 0), none, (.mv (.tmp 10))⟩]) (.block 0 (.loop c76_b3))) c76_k2)))
theorem cc76 : ccode Tryd.prog [104] (Tryd.f76.body.getD .skip) = some c76 := by kernel_rfl
theorem body76 : Tryd.f76.body = some (Tryd.f76.body.getD .skip) := rfl

theorem text_C (a : Row) (ha : (osl a).length ≤ 10000000) : PureC Tryd.prog 76 [aN a] (.ret (aS (dec a.val))) := by
  refine pureC_of (rs := [(RV.tmp 2)]) Tryd.func76 (fun a w => Tryd.call76 a w) body76 cc76 (by kernel_rfl) ?_
  rw [Tryd.ntmps76]
  simp only [frs, Nat.reduceAdd, Nat.reduceSub]
  have hta := trim_C a (by omega)
  change PureC _ _ _ (.ret (aN (trimR a))) at hta
  have hsa := trimR_ds a
  have hla := digits_len_row a
  have hva : (trimR a).val = a.val := by show val (osl (trimR a)) = _; rw [hsa, val_digits]
  have hX := val_lt (osl a)
  change a.val < _ at hX
  rw [← hva] at hsa hla hX ⊢
  generalize trimR a = s at *
  repeat (first | (with_reducible first | refine Way.imp ?_ | refine blk_o rfl ?_) | ((with_reducible refine WayR.imp (fun K hK => ?_)); simp (disch := first | omega | (simp only [dls]; omega)) only [std, reduceIte, reduceCtorEq, Int.reduceToNat, Nat.reduceAdd, Nat.reduceSub, Nat.reduceMul, Int.reduceAdd, Int.reduceSub, Int.reduceMul, Int.reduceNeg, fU]; subst hK) | refine zcA (hta) rfl rfl rfl ?_)
  refine AWp.fgt ?_ (Fgt.openNil (i := 3) rfl 5 1)
  simp only [List.set_cons_succ, List.set_cons_zero, List.length_nil, List.length_cons, List.nil_append, List.cons_append, Nat.reduceAdd]
  refine awp_loop (fun (zz : Row × (List UInt8) × Nat × Bool) => ⟨(aN zz.1 :: .junk :: aS [] :: .one (.own 0 zz.2.2.1) :: .junk :: .junk :: .junk :: .junk :: .junk :: .junk :: .junk :: .junk :: .junk :: .junk :: .junk :: .junk :: .junk :: .junk :: .junk :: .junk :: .junk :: .junk :: .junk :: .junk :: .junk :: .junk :: .junk :: .junk :: .junk :: .junk :: .junk :: .junk :: .junk :: .junk :: .junk :: .junk :: .junk :: .junk :: .junk :: .junk :: .junk :: .junk :: .junk :: .junk :: .junk :: .junk :: .junk :: .junk :: .junk :: .junk :: .junk :: .junk :: .junk :: .junk :: .junk :: .junk :: .junk :: .junk :: .junk :: .junk :: .junk :: .junk :: .junk :: []), [⟨zz.2.2.1, 5, 1, encB f8 zz.2.1, true, zz.2.2.2⟩]⟩) (fun (zz : Row × (List UInt8) × Nat × Bool) => osl zz.1 = digits zz.1.val ∧ rv zz.2.1 + 10 ^ zz.2.1.length * zz.1.val = s.val ∧ (∀ c ∈ zz.2.1, isDig c) ∧ zz.2.2.2 = !zz.2.1.isEmpty ∧ (osl zz.1).length ≤ 10000000 ∧ (zz.2.1 ≠ [] → s.val ≠ 0) ∧ zz.2.1.length ≤ 200000000) (fun (zz : Row × (List UInt8) × Nat × Bool) => zz.1.val) (s, [], 0, false) ?hI1 (Fgt.head (Nat.zero_le 1) [true, false, true, true] ?hT1 ?hH1) ?hB1
  case hT1 => first | (simp (disch := omega) only [hds, liveT, cleanAV, cleanCell, clean1, cleanBlk, reduceIte, Int.reduceSub, Int.reduceAdd, Int.reduceNeg, encB_nil]; done) | rfl
  case hH1 => first | (simp (disch := omega) only [hds, liveT, cleanAV, cleanCell, clean1, cleanBlk, reduceIte, Int.reduceSub, Int.reduceAdd, Int.reduceNeg, encB_nil]; done) | rfl
  · dsimp only
    exact ⟨hsa, by simp [rv], by simp, rfl, by rw [hsa]; omega, fun h => absurd rfl h, by simp⟩
  rintro ⟨A, out, v, nn⟩ ⟨hA, hrv, hdig, hnn, hlA, hne, hlo⟩
  dsimp only at hA hrv hdig hnn hlA hne hlo
  by_cases hz : A.val = 0
  · have hl : (osl A).length = 0 := by rw [hA, hz, digits_zero]; rfl
    rw [hz, Nat.mul_zero, Nat.add_zero] at hrv
    repeat (first | (with_reducible first | refine Way.imp ?_ | refine blk_o rfl ?_) | ((with_reducible refine WayR.imp (fun K hK => ?_)); simp (disch := first | omega | (simp only [dls]; omega)) only [std, reduceIte, reduceCtorEq, Int.reduceToNat, Nat.reduceAdd, Nat.reduceSub, Nat.reduceMul, Int.reduceAdd, Int.reduceSub, Int.reduceMul, Int.reduceNeg, fU]; subst hK))
    refine awp_loop (fun (zz : (List UInt8) × Nat × Bool) => ⟨(.junk :: .junk :: aS [] :: .one (.own 0 zz.2.1) :: .junk :: .junk :: .junk :: .junk :: .junk :: .junk :: .junk :: .junk :: .junk :: .junk :: .junk :: .junk :: .junk :: .junk :: .junk :: .junk :: .junk :: .junk :: .junk :: .junk :: .junk :: .junk :: .junk :: .junk :: .junk :: .junk :: .junk :: .junk :: .junk :: .junk :: .junk :: .junk :: .junk :: .junk :: .junk :: .junk :: .junk :: .junk :: .junk :: .junk :: .junk :: .junk :: .junk :: .junk :: .junk :: .junk :: .junk :: .junk :: .junk :: .junk :: .junk :: .junk :: .junk :: .junk :: .junk :: .junk :: .junk :: .junk :: .junk :: []), [⟨zz.2.1, 5, 1, encB f8 zz.1, true, zz.2.2⟩]⟩) (fun (zz : (List UInt8) × Nat × Bool) => rv zz.1 = s.val ∧ (∀ c ∈ zz.1, isDig c) ∧ zz.2.2 = !zz.1.isEmpty ∧ (zz.1 ≠ [] → s.val ≠ 0) ∧ zz.1.length ≤ 200000000) (fun (zz : (List UInt8) × Nat × Bool) => zz.1.length) (out, v, nn) ?hI2 (Fgt.head (Nat.zero_le 1) [false, false, true, true] ?hT2 ?hH2) ?hB2
    case hT2 => first | (simp (disch := omega) only [hds, liveT, cleanAV, cleanCell, clean1, cleanBlk, reduceIte, Int.reduceSub, Int.reduceAdd, Int.reduceNeg]; done) | rfl
    case hH2 => first | (simp (disch := omega) only [hds, liveT, cleanAV, cleanCell, clean1, cleanBlk, reduceIte, Int.reduceSub, Int.reduceAdd, Int.reduceNeg]; done) | rfl
    · dsimp only; exact ⟨hrv, hdig, hnn, hne, hlo⟩
    clear hrv hdig hnn hne hlo
    rintro ⟨out2, v2, nn2⟩ ⟨hrv, hdig, hnn, hne, hlo⟩
    dsimp only at hrv hdig hnn hne hlo
    by_cases h0 : out2.length = 0
    · have h00 := List.length_eq_zero_iff.1 h0
      have hs0 : s.val = 0 := by rw [← hrv, h00]; rfl
      repeat (first | (with_reducible first | refine Way.imp ?_ | refine blk_o rfl ?_) | ((with_reducible refine WayR.imp (fun K hK => ?_)); simp (disch := first | omega | (simp only [dls]; omega)) only [std, reduceIte, reduceCtorEq, Int.reduceToNat, Nat.reduceAdd, Nat.reduceSub, Nat.reduceMul, Int.reduceAdd, Int.reduceSub, Int.reduceMul, Int.reduceNeg, fU]; subst hK))
      refine ⟨_, rfl, ?_⟩
      rw [hs0]
      exact rfl
    · have hnn2 : nn2 = true := by rw [hnn]; cases out2 with | nil => exact absurd rfl h0 | cons c l => rfl
      subst hnn2
      have hne2 : out2 ≠ [] := fun e => h0 (by rw [e]; rfl)
      have hi : ((out2.length : Int) - 1).toNat = out2.length - 1 := by omega
      have hlast : out2.getLast hne2 = out2[out2.length - 1]'(by omega) := List.getLast_eq_getElem _
      have fin : out2[out2.length - 1]'(by omega) ≠ 48 → rdec s.val = out2 := fun h => by
        rw [← hrv]
        exact rdec_rv hdig (fun _ => by rw [hlast]; exact h)
      have hdec : rdec s.val = out2 → dec s.val = out2.reverse := fun h => by
        unfold dec; rw [if_neg (hne hne2), h]
      have hrev := reverse_C out2 v2 (by omega) (by omega)
      by_cases h1 : out2.length = 1
      · have h48 : out2[out2.length - 1]'(by omega) ≠ 48 := fun e => by
          obtain ⟨c, rfl⟩ := List.length_eq_one_iff.1 h1
          simp at e
          subst e
          exact hne (by simp) (by rw [← hrv]; rfl)
        rw [hdec (fin h48)]
        repeat (first | (with_reducible first | refine Way.imp ?_ | refine blk_o rfl ?_) | ((with_reducible refine WayR.imp (fun K hK => ?_)); simp (disch := first | omega | (simp only [dls]; omega)) only [std, reduceIte, reduceCtorEq, Int.reduceToNat, Nat.reduceAdd, Nat.reduceSub, Nat.reduceMul, Int.reduceAdd, Int.reduceSub, Int.reduceMul, Int.reduceNeg, fU, byteCells_enc]; subst hK) | (apply call_open (hrev) rfl rfl))
        exact ⟨_, rfl, rfl⟩
      · have hd2 := hdig _ (List.getElem_mem (show out2.length - 1 < out2.length by omega))
        by_cases h48 : out2[out2.length - 1]'(by omega) = 48
        · have hc : (out2[out2.length - 1]'(by omega)).toNat = 48 := by rw [h48]; rfl
          repeat (first | (with_reducible first | refine Way.imp ?_ | refine blk_o rfl ?_) | ((with_reducible refine WayR.imp (fun K hK => ?_)); simp (disch := first | omega | (simp only [dls]; omega)) only [std, reduceIte, reduceCtorEq, Int.reduceToNat, Nat.reduceAdd, Nat.reduceSub, Nat.reduceMul, Int.reduceAdd, Int.reduceSub, Int.reduceMul, Int.reduceNeg, fU, hi, f8, hc, encB_take]; subst hK))
          refine ⟨(out2.take (out2.length - 1), v2 + 1, true), ?hI3, ?hM3, Fgt.head (Nat.zero_le 1) [false, false, true, true] ?hT3 ?hH3⟩
          case hT3 => first | (simp (disch := omega) only [hds, liveT, cleanAV, cleanCell, clean1, cleanBlk, reduceIte, Int.reduceSub, Int.reduceAdd, Int.reduceNeg]; done) | rfl
          case hH3 => first | (simp (disch := omega) only [hds, liveT, cleanAV, cleanCell, clean1, cleanBlk, reduceIte, Int.reduceSub, Int.reduceAdd, Int.reduceNeg]; done) | rfl
          · dsimp only
            have e := List.take_append_getLast out2 hne2
            refine ⟨?_, fun c hc => hdig c (List.mem_of_mem_take hc), ?_, fun _ => hne hne2, by simp; omega⟩
            · have e2 : out2 = out2.take (out2.length - 1) ++ [48] := by
                conv => lhs; rw [← List.dropLast_concat_getLast hne2]
                rw [hlast, h48, List.dropLast_eq_take]
              rw [← hrv]
              conv => rhs; rw [e2]
              rw [rv_append]
              simp [rv]
            · have : (out2.take (out2.length - 1)).length ≠ 0 := by simp; omega
              cases hq : out2.take (out2.length - 1) with
              | nil => rw [hq] at this; exact absurd rfl this
              | cons c l => rfl
          · dsimp only; simp; omega
        · have hc : (out2[out2.length - 1]'(by omega)).toNat ≠ 48 := fun e => h48 (UInt8.toNat_inj.1 (by rw [e]; rfl))
          rw [hdec (fin h48)]
          repeat (first | (with_reducible first | refine Way.imp ?_ | refine blk_o rfl ?_) | ((with_reducible refine WayR.imp (fun K hK => ?_)); simp (disch := first | omega | (simp only [dls]; omega)) only [std, reduceIte, reduceCtorEq, Int.reduceToNat, Nat.reduceAdd, Nat.reduceSub, Nat.reduceMul, Int.reduceAdd, Int.reduceSub, Int.reduceMul, Int.reduceNeg, fU, hi, f8, byteCells_enc]; subst hK) | (apply call_open (hrev) rfl rfl))
          exact ⟨_, rfl, rfl⟩
  · have hl : (osl A).length ≠ 0 := by rw [hA]; exact Nat.ne_of_gt (digits_len_pos hz)
    have hof := of_C 1000000000 (by decide)
    have hll : (digits 1000000000).length ≤ 1 := digits_len_le (by decide)
    have hdm := divmod_C A (rowN 1000000000) (by omega) (by rw [osl_rowN]; omega) (by rw [rowN_val]; decide)
    rw [rowN_val, if_neg hz] at hdm
    have hR : A.val % 1000000000 < 1000000000 := Nat.mod_lt _ (by decide)
    have hdR : (digits (A.val % 1000000000)).length ≤ 1 := digits_len_le (by omega)
    have hsm := small_C (rowN (A.val % 1000000000)) (by rw [osl_rowN]; omega) (by rw [rowN_val]; omega)
    rw [rowN_val] at hsm
    have hb : out.length ≤ 100000000 := by
      have h1 : 10 ^ out.length * 1 ≤ 10 ^ out.length * A.val := Nat.mul_le_mul_left _ (by omega)
      have h2 := ten_bound (m := out.length) (by omega) hX
      omega
    generalize rowN 1000000000 = t at *
    generalize rowN (A.val % 1000000000) = r at *
    repeat (first | (with_reducible first | refine Way.imp ?_ | refine blk_o rfl ?_) | ((with_reducible refine WayR.imp (fun K hK => ?_)); simp (disch := first | omega | (simp only [dls]; omega)) only [std, reduceIte, reduceCtorEq, Int.reduceToNat, Nat.reduceAdd, Nat.reduceSub, Nat.reduceMul, Int.reduceAdd, Int.reduceSub, Int.reduceMul, Int.reduceNeg, fU]; subst hK) | refine zcA (hof) rfl rfl rfl ?_ | refine zcA (hdm) rfl rfl rfl ?_ | refine zcA (hsm) rfl rfl rfl ?_)
    refine awp_loop (fun (zz : Nat × Nat × (List UInt8) × Nat × Bool) => ⟨(aN A :: .junk :: aS [] :: .one (.own 0 zz.2.2.2.1) :: aN (rowN (A.val / 1000000000)) :: .junk :: .junk :: aU zz.2.1 :: .junk :: .junk :: .junk :: .junk :: .junk :: .junk :: .junk :: .junk :: .junk :: .junk :: .junk :: .junk :: .junk :: .junk :: .junk :: .junk :: .junk :: .junk :: aI zz.1 :: .junk :: .junk :: .junk :: .junk :: .junk :: .junk :: .junk :: .junk :: .junk :: .junk :: .junk :: .junk :: .junk :: .junk :: .junk :: .junk :: .junk :: .junk :: .junk :: .junk :: .junk :: .junk :: .junk :: .junk :: .junk :: .junk :: .junk :: .junk :: .junk :: .junk :: .junk :: .junk :: .junk :: .junk :: .junk :: .junk :: []), [⟨zz.2.2.2.1, 5, 1, encB f8 zz.2.2.1, true, zz.2.2.2.2⟩]⟩) (fun (zz : Nat × Nat × (List UInt8) × Nat × Bool) => zz.1 ≤ 9 ∧ zz.2.2.1.length = out.length + zz.1 ∧ zz.2.1 < 10 ^ (9 - zz.1) ∧ rv zz.2.2.1 + 10 ^ zz.2.2.1.length * zz.2.1 = rv out + 10 ^ out.length * (A.val % 1000000000) ∧ (∀ c ∈ zz.2.2.1, isDig c) ∧ zz.2.2.2.2 = !zz.2.2.1.isEmpty) (fun (zz : Nat × Nat × (List UInt8) × Nat × Bool) => 9 - zz.1) (0, A.val % 1000000000, out, v, nn) ?hI4 (Fgt.head (Nat.zero_le 1) [true, false, true, true, true, false, false, true, false, false, false, false, false, false, false, false, false, false, false, false, false, false, false, false, false, false, true] ?hT4 ?hH4) ?hB4
    case hT4 => first | (simp (disch := omega) only [hds, liveT, cleanAV, cleanCell, clean1, cleanBlk, reduceIte, Int.reduceSub, Int.reduceAdd, Int.reduceNeg]; done) | rfl
    case hH4 => first | (simp (disch := omega) only [hds, liveT, cleanAV, cleanCell, clean1, cleanBlk, reduceIte, Int.reduceSub, Int.reduceAdd, Int.reduceNeg]; done) | rfl
    · dsimp only; exact ⟨by omega, by omega, by simpa using hR, rfl, hdig, hnn⟩
    rintro ⟨k, n, out2, v2, nn2⟩ ⟨hk, hlen, hn, hrv2, hdig2, hnn2⟩
    dsimp only at hk hlen hn hrv2 hdig2 hnn2
    by_cases hk9 : k = 9
    · subst hk9
      have hn0 : n = 0 := by simp at hn; omega
      rw [hn0, Nat.mul_zero, Nat.add_zero] at hrv2
      repeat (first | (with_reducible first | refine Way.imp ?_ | refine blk_o rfl ?_) | ((with_reducible refine WayR.imp (fun K hK => ?_)); simp (disch := first | omega | (simp only [dls]; omega)) only [std, reduceIte, reduceCtorEq, Int.reduceToNat, Nat.reduceAdd, Nat.reduceSub, Nat.reduceMul, Int.reduceAdd, Int.reduceSub, Int.reduceMul, Int.reduceNeg, fU]; subst hK))
      refine ⟨(rowN (A.val / 1000000000), out2, v2, nn2), ?hI5, ?hM5, Fgt.head (Nat.zero_le 1) [true, false, true, true] ?hT5 ?hH5⟩
      case hT5 => first | (simp (disch := omega) only [hds, liveT, cleanAV, cleanCell, clean1, cleanBlk, reduceIte, Int.reduceSub, Int.reduceAdd, Int.reduceNeg]; done) | rfl
      case hH5 => first | (simp (disch := omega) only [hds, liveT, cleanAV, cleanCell, clean1, cleanBlk, reduceIte, Int.reduceSub, Int.reduceAdd, Int.reduceNeg]; done) | rfl
      · dsimp only
        have hq : A.val / 1000000000 ≤ A.val := Nat.div_le_self _ _
        have hql := digits_len_mono hq
        rw [← hA] at hql
        refine ⟨by rw [osl_rowN, rowN_val], ?_, hdig2, hnn2, by rw [osl_rowN]; omega, fun _ => ?_, by omega⟩
        · rw [rowN_val, hrv2, hlen, Nat.pow_add, Nat.mul_assoc, Nat.add_assoc, ← Nat.mul_add]
          rw [show (10 : Nat) ^ 9 = 1000000000 from rfl, Nat.mod_add_div]
          exact hrv
        · intro h0
          rw [h0] at hrv
          have : 1 * 1 ≤ 10 ^ out.length * A.val := Nat.mul_le_mul (Nat.pow_pos (by decide)) (by omega)
          omega
      · dsimp only
        rw [rowN_val]
        omega
    · have hd : n % 10 < 10 := Nat.mod_lt _ (by decide)
      have hc8 := chr_toNat hd
      have hn9 : n < 1000000000 := Nat.lt_of_lt_of_le hn (by
        have := Nat.pow_le_pow_right (n := 10) (by decide) (show 9 - k ≤ 9 by omega)
        simpa using this)
      have hm : (n : Int).tmod 10 = ((n % 10 : Nat) : Int) := by rw [tmod_nn (by omega)]; simp
      have hq : (n : Int).tdiv 10 = ((n / 10 : Nat) : Int) := by rw [tdiv_nn (by omega)]; simp
      have h48 : (48 : Int) + ((n % 10 : Nat) : Int) = ((48 + n % 10 : Nat) : Int) := by omega
      have mk1 : [[Cell.c (CV.val (.int .u8 ((48 + n % 10 : Nat) : Int)))]] = encB f8 [chr (n % 10)] := by rw [← hc8]; rfl
      repeat (first | (with_reducible first | refine Way.imp ?_ | refine blk_o rfl ?_) | ((with_reducible refine WayR.imp (fun K hK => ?_)); simp (disch := first | omega | (simp only [dls]; omega)) only [std, reduceIte, reduceCtorEq, Int.reduceToNat, Nat.reduceAdd, Nat.reduceSub, Nat.reduceMul, Int.reduceAdd, Int.reduceSub, Int.reduceMul, Int.reduceNeg, fU, hm, hq, h48, mk1, encB_append, List.isEmpty_cons]; subst hK))
      have hemp : (!(out2 ++ [chr (n % 10)]).isEmpty) = true := by cases out2 <;> rfl
      refine ⟨(k + 1, n / 10, out2 ++ [chr (n % 10)], v2 + 1, true), ?hI6, ?hM6, Fgt.head (Nat.zero_le 1) [true, false, true, true, true, false, false, true, false, false, false, false, false, false, false, false, false, false, false, false, false, false, false, false, false, false, true] ?hT6 ?hH6⟩
      case hT6 => first | (simp (disch := omega) only [hds, liveT, cleanAV, cleanCell, clean1, cleanBlk, reduceIte, Int.reduceSub, Int.reduceAdd, Int.reduceNeg, hemp]; done) | rfl
      case hH6 => first | (simp (disch := omega) only [hds, liveT, cleanAV, cleanCell, clean1, cleanBlk, reduceIte, Int.reduceSub, Int.reduceAdd, Int.reduceNeg, hemp]; done) | rfl
      · dsimp only
        refine ⟨by omega, by simp; omega, ?_, ?_, ?_, hemp.symm⟩
        · have e : 9 - k = (9 - (k + 1)) + 1 := by omega
          rw [e, Nat.pow_succ] at hn
          exact Nat.div_lt_of_lt_mul (by rw [Nat.mul_comm]; exact hn)
        · rw [rv_snoc _ _ hd, List.length_append, List.length_singleton, Nat.pow_succ, Nat.mul_assoc, Nat.add_assoc, ← Nat.mul_add, Nat.mod_add_div]
          exact hrv2
        · intro c hc
          rcases List.mem_append.1 hc with hc | hc
          · exact hdig2 c hc
          · rw [List.mem_singleton.1 hc]; exact chr_dig hd
      · dsimp only; omega
end Go.Proofs.YtdhkdnmefeeclaaDoor
