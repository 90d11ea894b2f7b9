/- The law VecSparse: the walk. -/
import Derived.WalkKit
import Derived.ProofKit
import Derived.OpenShut
import Derived.ShutString
import Derived.ChangeOld
import Derived.Below
import Derived.Test.YtdhkdnmefeeclaaG6a
import Derived.Test.YtdhkdnmefeeclaaG7a
import Derived.Test.YtdhkdnmefeeclaaK0
import Derived.Test.YtdhkdnmefeeclaaL1
set_option linter.unusedSimpArgs false
set_option linter.unusedVariables false
set_option linter.unnecessarySimpa false
set_option linter.unusedSimpArgs false
set_option linter.unusedVariables false
set_option maxRecDepth 100000
set_option maxHeartbeats 4000000
namespace Go.Proofs.Ytdhkdnmefeeclaa
open Go Go.Am Go.Proofs Go.RowKit Go.Off

theorem qOut {a : VV} {i : Nat} (h : (osl a).length ≤ i) : qAt a i = 0 := by unfold qAt; rw [rAt_out h]; exact zR_val
theorem sparse_mem {a : VV} {k : Nat} {t : TT} : t ∈ sparseTo a k ↔ ∃ i, i < k ∧ qAt a i ≠ 0 ∧ t = ⟨(i : Int), rawQ (qAt a i)⟩ := by
  unfold sparseTo
  rw [List.mem_filterMap]
  constructor
  · rintro ⟨i, hi, h⟩
    split at h
    · cases h
    · rename_i hne
      exact ⟨i, List.mem_range.1 hi, hne, (Option.some.inj h).symm⟩
  · rintro ⟨i, hi, hne, rfl⟩
    exact ⟨i, List.mem_range.2 hi, by rw [if_neg hne]⟩
theorem sparse_inc (a : VV) (k : Nat) : (sparseTo a k).Pairwise (fun s t => s.at' < t.at') := by
  induction k with
  | zero => exact List.Pairwise.nil
  | succ k ih =>
    by_cases h : qAt a k = 0
    · rw [sparseTo_zero a k h]; exact ih
    · rw [sparseTo_more a k h, List.pairwise_append]
      refine ⟨ih, List.pairwise_singleton _ _, fun s hs t ht => ?_⟩
      obtain ⟨i, hi, _, rfl⟩ := sparse_mem.1 hs
      have : t = ⟨(k : Int), rawQ (qAt a k)⟩ := by simpa using ht
      subst this
      show (i : Int) < (k : Int)
      omega
theorem sparse_pre (a : VV) (i d : Nat) : ∃ r, sparseTo a (i + d) = sparseTo a i ++ r := by
  induction d with
  | zero => exact ⟨[], by simp⟩
  | succ d ih =>
    obtain ⟨r, hr⟩ := ih
    by_cases h : qAt a (i + d) = 0
    · exact ⟨r, by rw [show i + (d + 1) = (i + d) + 1 by omega, sparseTo_zero a _ h, hr]⟩
    · exact ⟨r ++ [⟨((i + d : Nat) : Int), rawQ (qAt a (i + d))⟩], by rw [show i + (d + 1) = (i + d) + 1 by omega, sparseTo_more a _ h, hr, List.append_assoc]⟩
theorem sparse_at {a : VV} {i : Nat} (hi : i < (osl a).length) (h : qAt a i ≠ 0) : (sparseQ a)[(sparseTo a i).length]? = some ⟨(i : Int), rawQ (qAt a i)⟩ := by
  obtain ⟨r, hr⟩ := sparse_pre a (i + 1) ((osl a).length - (i + 1))
  rw [show i + 1 + ((osl a).length - (i + 1)) = (osl a).length by omega] at hr
  unfold sparseQ
  rw [hr, sparseTo_more a i h, List.append_assoc, List.getElem?_append_right (Nat.le_refl _), Nat.sub_self]
  rfl
theorem sparse_right (a : VV) : rightQ (rowO (sparseQ a)) = true := by
  unfold rightQ rightTo
  rw [List.all_eq_true]
  intro i hi
  have hlt : i < (osl (rowO (sparseQ a))).length := List.mem_range.1 hi
  have hlt' : i < (sparseQ a).length := by rw [osl_rowO] at hlt; exact hlt
  have e : ∀ j (h : j < (sparseQ a).length), tAt (rowO (sparseQ a)) j = (sparseQ a)[j] := fun j h => by
    unfold tAt; rw [osl_rowO]; simp [List.getD_eq_getElem?_getD, h]
  have hm := sparse_mem.1 (List.getElem_mem hlt' : (sparseQ a)[i] ∈ sparseTo a (osl a).length)
  unfold okT
  rw [e i hlt']
  obtain ⟨j, hj, hne, ht⟩ := hm
  rw [ht]
  have hv : decide ((rawQ (qAt a j)).val = 0) = false := by rw [rawQ_val]; exact decide_eq_false hne
  show (decide ((0 : Int) ≤ (j : Int)) && (decide (i = 0) || _) && !_) = true
  rw [hv, decide_eq_true (by omega : (0 : Int) ≤ (j : Int))]
  by_cases h0 : i = 0
  · simp [h0]
  · have hp := List.pairwise_iff_getElem.1 (sparse_inc a (osl a).length) (i - 1) i (show i - 1 < (sparseQ a).length by omega) hlt' (by omega)
    have ht' : ((sparseTo a (osl a).length)[i]'hlt').at' = (j : Int) := by
      have : (sparseTo a (osl a).length)[i]'hlt' = ⟨(j : Int), rawQ (qAt a j)⟩ := ht
      rw [this]
    rw [ht'] at hp
    rw [e (i - 1) (by omega)]
    have hp' : ((sparseQ a)[i - 1]'(by omega)).at' < (j : Int) := hp
    simp [hp']
theorem denseTo_other {l : TV} {m j : Nat} (hj : j < m) : ∀ (k : Nat), (∀ i, i < k → (tAt l i).at'.toNat ≠ j) → (denseTo l m k)[j]? = some (rawQ 0)
  | 0, _ => by simp [denseTo, hj]
  | k + 1, h => by
    rw [denseTo_succ, List.getElem?_set_ne (h k (by omega))]
    exact denseTo_other hj k (fun i hi => h i (by omega))
theorem sparse_lt {a : VV} {m : Nat} (hm : (osl a).length ≤ m) {i : Nat} (hi : i < (osl (rowO (sparseQ a))).length) : ∃ j, j < (osl a).length ∧ qAt a j ≠ 0 ∧ tAt (rowO (sparseQ a)) i = ⟨(j : Int), rawQ (qAt a j)⟩ := by
  have hlt' : i < (sparseQ a).length := by rw [osl_rowO] at hi; exact hi
  obtain ⟨j, hj, hne, ht⟩ := sparse_mem.1 (List.getElem_mem hlt' : (sparseQ a)[i] ∈ sparseTo a (osl a).length)
  refine ⟨j, hj, hne, ?_⟩
  rw [← ht]
  unfold tAt; rw [osl_rowO]; simp [List.getD_eq_getElem?_getD, hlt']
theorem dense_sparse (a : VV) (m : Nat) (hm : (osl a).length ≤ m) : denseTo (rowO (sparseQ a)) m (osl (rowO (sparseQ a))).length = (List.range m).map fun j => rawQ (qAt a j) := by
  apply List.ext_getElem?
  intro j
  by_cases hj : j < m
  · have e : ((List.range m).map fun j => rawQ (qAt a j))[j]? = some (rawQ (qAt a j)) := by simp [hj]
    rw [e]
    by_cases hex : ∃ i, i < (osl (rowO (sparseQ a))).length ∧ (tAt (rowO (sparseQ a)) i).at'.toNat = j
    · obtain ⟨i, hi, hij⟩ := hex
      have hg := denseTo_get (sparse_right a) m _ (Nat.le_refl _) i hi (by omega)
      obtain ⟨q, hq, hne, ht⟩ := sparse_lt hm hi
      rw [ht] at hg hij
      have hqj : q = j := by simpa using hij
      subst hqj
      rw [rawQ_val] at hg
      simpa using hg
    · rw [denseTo_other hj _ (fun i hi e => hex ⟨i, hi, e⟩)]
      by_cases h0 : qAt a j = 0
      · rw [h0]
      · exfalso
        have hja : j < (osl a).length := Decidable.byContradiction fun hn => h0 (qOut (by omega))
        have hs := sparse_at hja h0
        have hlt := (List.getElem?_eq_some_iff.1 hs).1
        refine hex ⟨(sparseTo a j).length, by rw [osl_rowO]; exact hlt, ?_⟩
        unfold tAt
        rw [osl_rowO, List.getD_eq_getElem?_getD, hs]
        simp
  · rw [List.getElem?_eq_none (by rw [denseTo_len]; omega), List.getElem?_eq_none (by simp; omega)]

theorem osl_drop_rowO {α : Type} (l : List α) (j : Nat) : osl ((rowO l).map (·.drop j)) = l.drop j := by
  cases l with
  | nil => simp [rowO, osl]
  | cons x l => rfl

abbrev c3_k1 : CC := (CC.seq (CC.reg [⟨(some 102), none, (COp.mv (Operand.tmp 9))⟩, ⟨(some 103), none, (COp.mv (Operand.tmp 5))⟩, ⟨(some 104), none, (COp.len false (Operand.tmp 103))⟩, ⟨(some 105), none, (COp.bin BinOp.eql (Operand.tmp 102) (Operand.tmp 104))⟩, ⟨(some 106), none, (COp.mv (Operand.tmp 105))⟩, ⟨(some 107), (some (106, true)), (COp.callf (Operand.func 27) [])⟩, ⟨(some 108), none, (COp.pick (Operand.tmp 106) (Operand.tmp 107) (Operand.const (Value.bool false)))⟩, ⟨(some 4), none, (COp.mv (Operand.tmp 108))⟩]) CC.ret)
abbrev c3_b1 : CC := (CC.seq (CC.reg [⟨(some 95), none, (COp.bin BinOp.lss (Operand.tmp 94) (Operand.tmp 93))⟩]) (CC.seq (CC.cond (Operand.tmp 95) CC.skip (CC.exit 2)) (CC.seq (CC.block 3 (CC.seq (CC.reg [⟨(some 96), none, (COp.iaddr 3 none (Operand.tmp 92) (Operand.tmp 94))⟩, ⟨(some 97), none, (COp.load 3 true (Operand.tmp 96))⟩, ⟨(some 13), none, (COp.new 40 [(Value.bool false), (Value.slice none 0 0), (Value.slice none 0 0)])⟩, ⟨none, none, (COp.store 3 (Operand.tmp 13) (Operand.tmp 97))⟩]) (CC.seq (CC.reg [⟨(some 98), none, (COp.load 3 true (Operand.tmp 13))⟩, ⟨(some 99), none, (COp.callf (Operand.func 33) [(Operand.tmp 98)])⟩, ⟨(some 100), none, (COp.bin BinOp.neq (Operand.tmp 99) (Operand.const (Value.int IntKind.i64 (0))))⟩]) (CC.cond (Operand.tmp 100) (CC.seq (CC.reg [⟨(some 4), none, (COp.mv (Operand.const (Value.bool false)))⟩]) CC.ret) CC.skip)))) (CC.reg [⟨(some 101), none, (COp.bin BinOp.add (Operand.tmp 94) (Operand.const (Value.int IntKind.i64 (1))))⟩, ⟨(some 94), none, (COp.mv (Operand.tmp 101))⟩]))))
abbrev c3_k2 : CC := (CC.seq (CC.seq (CC.reg [⟨(some 89), none, (COp.mv (Operand.tmp 7))⟩, ⟨(some 90), none, (COp.mv (Operand.tmp 0))⟩, ⟨(some 91), none, (COp.len false (Operand.tmp 90))⟩, ⟨(some 92), none, (COp.slice 3 (Operand.tmp 89) (some (Operand.tmp 91)) none none)⟩, ⟨(some 93), none, (COp.len false (Operand.tmp 92))⟩, ⟨(some 94), none, (COp.mv (Operand.const (Value.int IntKind.i64 (0))))⟩]) (CC.block 2 (CC.loop c3_b1))) c3_k1)
abbrev c3_b2 : CC := (CC.seq (CC.reg [⟨(some 49), none, (COp.bin BinOp.lss (Operand.tmp 48) (Operand.tmp 47))⟩]) (CC.seq (CC.cond (Operand.tmp 49) CC.skip (CC.exit 0)) (CC.seq (CC.block 1 (CC.seq (CC.reg [⟨(some 50), none, (COp.mv (Operand.tmp 48))⟩, ⟨(some 51), none, (COp.iaddr 2 none (Operand.tmp 46) (Operand.tmp 48))⟩, ⟨(some 52), none, (COp.load 2 true (Operand.tmp 51))⟩, ⟨(some 11), none, (COp.new 33 [(Value.string ⟨#[]⟩), (Value.string ⟨#[]⟩)])⟩, ⟨(some 10), none, (COp.mv (Operand.tmp 50))⟩, ⟨none, none, (COp.store 2 (Operand.tmp 11) (Operand.tmp 52))⟩]) (CC.seq (CC.seq (CC.reg [⟨(some 53), none, (COp.mv (Operand.tmp 7))⟩, ⟨(some 54), none, (COp.mv (Operand.tmp 10))⟩, ⟨(some 55), none, (COp.iaddr 3 none (Operand.tmp 53) (Operand.tmp 54))⟩, ⟨(some 56), none, (COp.load 3 true (Operand.tmp 55))⟩, ⟨(some 57), none, (COp.load 2 true (Operand.tmp 11))⟩, ⟨(some 58), none, (COp.callf (Operand.func 32) [(Operand.tmp 56), (Operand.tmp 57)])⟩, ⟨(some 59), none, (COp.un UnOp.not (Operand.tmp 58))⟩]) (CC.cond (Operand.tmp 59) (CC.seq (CC.reg [⟨(some 4), none, (COp.mv (Operand.const (Value.bool false)))⟩]) CC.ret) CC.skip)) (CC.seq (CC.reg [⟨(some 60), none, (COp.faddr 0 (Operand.tmp 11))⟩, ⟨(some 61), none, (COp.load 1 false (Operand.tmp 60))⟩, ⟨(some 62), none, (COp.bin BinOp.neq (Operand.tmp 61) (Operand.const (Value.string ⟨#[48]⟩)))⟩]) (CC.cond (Operand.tmp 62) (CC.seq (CC.seq (CC.reg [⟨(some 63), none, (COp.mv (Operand.tmp 9))⟩, ⟨(some 64), none, (COp.mv (Operand.tmp 5))⟩, ⟨(some 65), none, (COp.len false (Operand.tmp 64))⟩, ⟨(some 66), none, (COp.bin BinOp.geq (Operand.tmp 63) (Operand.tmp 65))⟩, ⟨(some 67), none, (COp.mv (Operand.tmp 66))⟩, ⟨(some 68), (some (67, false)), (COp.mv (Operand.tmp 5))⟩, ⟨(some 69), (some (67, false)), (COp.mv (Operand.tmp 9))⟩, ⟨(some 70), (some (67, false)), (COp.iaddr 4 none (Operand.tmp 68) (Operand.tmp 69))⟩, ⟨(some 71), (some (67, false)), (COp.faddr 0 (Operand.tmp 70))⟩, ⟨(some 72), (some (67, false)), (COp.load 1 false (Operand.tmp 71))⟩, ⟨(some 73), (some (67, false)), (COp.mv (Operand.tmp 10))⟩, ⟨(some 74), (some (67, false)), (COp.bin BinOp.neq (Operand.tmp 72) (Operand.tmp 73))⟩, ⟨(some 75), none, (COp.pick (Operand.tmp 67) (Operand.const (Value.bool true)) (Operand.tmp 74))⟩, ⟨(some 76), none, (COp.mv (Operand.tmp 75))⟩, ⟨(some 77), (some (76, false)), (COp.mv (Operand.tmp 5))⟩, ⟨(some 78), (some (76, false)), (COp.mv (Operand.tmp 9))⟩, ⟨(some 79), (some (76, false)), (COp.iaddr 4 none (Operand.tmp 77) (Operand.tmp 78))⟩, ⟨(some 80), (some (76, false)), (COp.faddr 1 (Operand.tmp 79))⟩, ⟨(some 81), (some (76, false)), (COp.load 3 true (Operand.tmp 80))⟩, ⟨(some 82), (some (76, false)), (COp.load 2 true (Operand.tmp 11))⟩, ⟨(some 83), (some (76, false)), (COp.callf (Operand.func 32) [(Operand.tmp 81), (Operand.tmp 82)])⟩, ⟨(some 84), (some (76, false)), (COp.un UnOp.not (Operand.tmp 83))⟩, ⟨(some 85), none, (COp.pick (Operand.tmp 76) (Operand.const (Value.bool true)) (Operand.tmp 84))⟩]) (CC.cond (Operand.tmp 85) (CC.seq (CC.reg [⟨(some 4), none, (COp.mv (Operand.const (Value.bool false)))⟩]) CC.ret) CC.skip)) (CC.reg [⟨(some 86), none, (COp.mv (Operand.tmp 9))⟩, ⟨(some 87), none, (COp.bin BinOp.add (Operand.tmp 86) (Operand.const (Value.int IntKind.i64 (1))))⟩, ⟨(some 9), none, (COp.mv (Operand.tmp 87))⟩])) CC.skip))))) (CC.reg [⟨(some 88), none, (COp.bin BinOp.add (Operand.tmp 48) (Operand.const (Value.int IntKind.i64 (1))))⟩, ⟨(some 48), none, (COp.mv (Operand.tmp 88))⟩]))))
abbrev c3 : CC := (CC.seq (CC.reg [⟨(some 4), none, (COp.mv (Operand.const (Value.bool false)))⟩]) (CC.seq (CC.seq (CC.reg [⟨(some 14), none, (COp.mv (Operand.tmp 0))⟩, ⟨(some 15), none, (COp.callf (Operand.func 26) [(Operand.tmp 14)])⟩, ⟨(some 16), none, (COp.un UnOp.not (Operand.tmp 15))⟩]) (CC.cond (Operand.tmp 16) (CC.seq (CC.reg [⟨(some 17), none, (COp.callf (Operand.func 27) [])⟩, ⟨(some 4), none, (COp.mv (Operand.tmp 17))⟩]) CC.ret) CC.skip)) (CC.seq (CC.reg [⟨(some 18), none, (COp.mv (Operand.tmp 0))⟩, ⟨(some 19), none, (COp.callf (Operand.func 28) [(Operand.tmp 18)])⟩, ⟨(some 5), none, (COp.mv (Operand.tmp 19))⟩]) (CC.seq (CC.reg [⟨(some 20), none, (COp.mv (Operand.tmp 0))⟩, ⟨(some 21), none, (COp.len false (Operand.tmp 20))⟩, ⟨(some 22), none, (COp.mv (Operand.tmp 1))⟩, ⟨(some 23), none, (COp.conv IntKind.i64 (Operand.tmp 22))⟩, ⟨(some 24), none, (COp.bin BinOp.rem (Operand.tmp 23) (Operand.const (Value.int IntKind.i64 (20))))⟩, ⟨(some 25), none, (COp.bin BinOp.add (Operand.tmp 21) (Operand.tmp 24))⟩, ⟨(some 6), none, (COp.mv (Operand.tmp 25))⟩]) (CC.seq (CC.reg [⟨(some 27), none, (COp.mv (Operand.tmp 5))⟩, ⟨(some 28), none, (COp.mv (Operand.tmp 6))⟩, ⟨(some 29), none, (COp.callf (Operand.func 29) [(Operand.tmp 27), (Operand.tmp 28)])⟩, ⟨(some 26), none, (COp.mv (Operand.tmp 29))⟩, ⟨(some 30), none, (COp.ext (Operand.tmp 26) 0)⟩, ⟨(some 31), none, (COp.ext (Operand.tmp 26) 1)⟩, ⟨(some 7), none, (COp.mv (Operand.tmp 30))⟩, ⟨(some 8), none, (COp.mv (Operand.tmp 31))⟩]) (CC.seq (CC.seq (CC.reg [⟨(some 32), none, (COp.mv (Operand.tmp 5))⟩, ⟨(some 33), none, (COp.callf (Operand.func 30) [(Operand.tmp 32)])⟩, ⟨(some 34), none, (COp.un UnOp.not (Operand.tmp 33))⟩, ⟨(some 35), none, (COp.mv (Operand.tmp 34))⟩, ⟨(some 36), (some (35, false)), (COp.mv (Operand.tmp 8))⟩, ⟨(some 37), (some (35, false)), (COp.un UnOp.not (Operand.tmp 36))⟩, ⟨(some 38), none, (COp.pick (Operand.tmp 35) (Operand.const (Value.bool true)) (Operand.tmp 37))⟩, ⟨(some 39), none, (COp.mv (Operand.tmp 38))⟩, ⟨(some 40), (some (39, false)), (COp.mv (Operand.tmp 7))⟩, ⟨(some 41), (some (39, false)), (COp.len false (Operand.tmp 40))⟩, ⟨(some 42), (some (39, false)), (COp.mv (Operand.tmp 6))⟩, ⟨(some 43), (some (39, false)), (COp.bin BinOp.neq (Operand.tmp 41) (Operand.tmp 42))⟩, ⟨(some 44), none, (COp.pick (Operand.tmp 39) (Operand.const (Value.bool true)) (Operand.tmp 43))⟩]) (CC.cond (Operand.tmp 44) (CC.seq (CC.reg [⟨(some 4), none, (COp.mv (Operand.const (Value.bool false)))⟩]) CC.ret) CC.skip)) (CC.seq (CC.reg [⟨(some 9), none, (COp.mv (Operand.const (Value.int IntKind.i64 (0))))⟩]) (CC.seq (CC.seq (CC.reg [⟨(some 45), none, (COp.mv (Operand.tmp 0))⟩, ⟨(some 46), none, (COp.callf (Operand.func 31) [(Operand.tmp 45)])⟩, ⟨(some 47), none, (COp.len false (Operand.tmp 46))⟩, ⟨(some 48), none, (COp.mv (Operand.const (Value.int IntKind.i64 (0))))⟩]) (CC.block 0 (CC.loop c3_b2))) c3_k2))))))))
theorem cc3 : ccode Try.prog [] (Try.f3.body.getD .skip) = some c3 := by kernel_rfl
theorem body3 : Try.f3.body = some (Try.f3.body.getD .skip) := rfl

theorem vecSparse_C (a : VV) (more : Int) (hmo : 0 ≤ more ∧ more ≤ 255) : PureC Try.prog 3 [aV a, .one (.c (.val (.int .u8 more)))] (.ret (aB true)) := by
  have h1 := few_C a
  have hw := awake5_C
  by_cases c1 : fewB a = true
  · rw [c1] at h1
    have fa := fewB_fits c1
    have fa1 := fa.1
    obtain ⟨rm, hrm, hrl⟩ : ∃ r : Nat, Int.tmod more 20 = (r : Int) ∧ r < 20 := ⟨(more % 20).toNat, by rw [tmod_nn hmo.1]; omega, by omega⟩
    obtain ⟨m, hm⟩ : ∃ m, m = (osl a).length + rm := ⟨_, rfl⟩
    have sp := vsparse_R a 8 3 fa (by decide) (by decide)
    have fts := (fits_sparse fa (by decide) : FitsT (rowO (sparseQ a)) 8 3)
    have hlo := denseOk_eq (rowO (sparseQ a)) (m : Int)
    have hok : denseOk (rowO (sparseQ a)) (m : Int) = true := by
      rw [hlo, sparse_right, Bool.true_and]
      unfold fitsTo
      rw [decide_eq_true (by omega : (0 : Int) ≤ (m : Int)), decide_eq_true (by omega : (m : Int) ≤ 65536), Bool.true_and, Bool.true_and, List.all_eq_true]
      intro i hi
      obtain ⟨j, hj, _, ht⟩ := sparse_lt (a := a) (m := m) (by omega) (List.mem_range.1 hi)
      rw [ht]
      exact decide_eq_true (show (j : Int) < (m : Int) by omega)
    have dn := vdense_yes (rowO (sparseQ a)) (m : Int) 8 3 fts (by decide) (by decide) hok
    rw [Int.toNat_natCast, dense_sparse a m (by omega)] at dn
    have rt := vright_C (rowO (sparseQ a)) 8 3 fts (by decide) (by decide)
    rw [sparse_right] at rt
    have rw1 := row_C a 8 3 fa (by decide) (by decide)
    have hlx : (osl (rowO (rowD a))).length = (osl a).length := by rw [osl_rowO, rowD_len]
    have hgx : ∀ i (h : i < (osl (rowO (rowD a))).length), (osl (rowO (rowD a)))[i] = qAt a i := fun i h => by
      have h' : i < (osl a).length := by rw [hlx] at h; exact h
      unfold qAt; rw [rAt_in h']; simp only [osl_rowO, rowD, List.getElem_map]
    have hld : (osl (rowO ((List.range m).map fun j => rawQ (qAt a j)))).length = m := by rw [osl_rowO]; simp
    have hgd : ∀ i (h : i < (osl (rowO ((List.range m).map fun j => rawQ (qAt a j)))).length), (osl (rowO ((List.range m).map fun j => rawQ (qAt a j))))[i] = rawQ (qAt a i) := fun i h => by simp only [osl_rowO, List.getElem_map, List.getElem_range]
    have hlt2 : ∀ j, (osl ((rowO ((List.range m).map fun j => rawQ (qAt a j))).map (·.drop j))).length = m - j := fun j => by rw [osl_drop_rowO]; simp
    have hgt2 : ∀ j i (h : i < (osl ((rowO ((List.range m).map fun j => rawQ (qAt a j))).map (·.drop j))).length), (osl ((rowO ((List.range m).map fun j => rawQ (qAt a j))).map (·.drop j)))[i] = rawQ (qAt a (j + i)) := fun j i h => by
      simp only [osl_drop_rowO, List.getElem_drop, List.getElem_map, List.getElem_range]
    have hsp : ∀ i, i < (osl a).length → qAt a i ≠ 0 → (osl (rowO (sparseQ a)))[(sparseTo a i).length]? = some ⟨(i : Int), rawQ (qAt a i)⟩ := fun i hi h => by rw [osl_rowO]; exact sparse_at hi h
    have hls : (osl (rowO (sparseQ a))).length = (sparseTo a (osl a).length).length := by rw [osl_rowO]; rfl
    have s0 := rsign_C (rawQ 0) (fits_rawQ (fitsQ_zero 1000000000 (by decide)))
    have htop : sgn (rawQ 0).top = 0 := (sgn_zero_iff _).2 ((top_zero _).2 (rawQ_val 0))
    rw [htop] at s0
    have hsl8 : ∀ i, (sparseTo a i).length ≤ i := sparseTo_len a
    have hz0 := fun i => decZ_zero_beq (qAt a i)
    generalize rowO (rowD a) = x at *
    generalize rowO (sparseQ a) = ts at *
    generalize rowO ((List.range m).map fun j => rawQ (qAt a j)) = d at *
    refine pureC_of (rs := [(RV.tmp 4)]) Try.func3 (fun a w => Try.call3 a w) body3 cc3 (by kernel_rfl) ?_
    rw [Try.ntmps3]
    simp only [frs, Nat.reduceAdd, Nat.reduceSub]
    have hsum : ((osl a).length : Int) + (rm : Int) = (m : Int) := by omega
    repeat (first | (with_reducible first | refine zw10 ?_ | refine zw1 ?_ | refine zw4 ?_ | refine zw18 ?_ | refine zw19 ?_ | refine zw11 ?_ | refine zw12 ?_ | refine zw14 ?_ | refine zw2 ?_ | refine zw5 ?_ | refine zw9 ?_ | refine zw13 ?_ | refine zw3 ?_ | refine zw6 ?_ | refine zw8 ?_ | refine zw15 ?_ | refine zw16 ?_ | refine zw17 ?_ | refine blk_o rfl ?_) | ((with_reducible first | refine zb1 mixed (fun K hK => ?_) | refine zb2 (fun K hK => ?_) | refine zb3 (fun K hK => ?_)); simp (disch := first | omega | (simp only [dls]; omega)) only [std, cev, cstep, St.ev, putT, AV.cells?, AV.int?, AV.bool?, AV.str?, readN, mkAV, putN, guardWant, bound, Value.oneCell', opO, putSt, reduceIte, reduceCtorEq, Int.reduceToNat, Nat.reduceAdd, Nat.reduceSub, Nat.reduceMul, Int.reduceAdd, Int.reduceSub, Int.reduceMul, Int.reduceNeg, fU, constAV_arr, cons_beq_nil, nil_beq_nil, hrm, hsum]; subst hK) | refine zcA (h1) rfl rfl rfl ?_ | refine zcA (sp) rfl rfl rfl ?_ | refine zcA (dn) rfl rfl rfl ?_ | refine zcA (rt) rfl rfl rfl ?_ | refine zcA (rw1) rfl rfl rfl ?_)
    refine awp_loop (fun (zz : Nat × Nat) => ⟨(aV a :: .junk :: .junk :: .junk :: aB false :: aT ts :: .junk :: aV d :: .junk :: aI zz.2 :: .junk :: .junk :: .junk :: .junk :: .junk :: .junk :: .junk :: .junk :: .junk :: .junk :: .junk :: .junk :: .junk :: .junk :: .junk :: .junk :: .junk :: .junk :: .junk :: .junk :: .junk :: .junk :: .junk :: .junk :: .junk :: .junk :: .junk :: .junk :: .junk :: .junk :: .junk :: .junk :: .junk :: .junk :: .junk :: .junk :: aD x :: aI (osl x).length :: aI zz.1 :: .junk :: .junk :: .junk :: .junk :: .junk :: .junk :: .junk :: .junk :: .junk :: .junk :: .junk :: .junk :: .junk :: .junk :: .junk :: .junk :: .junk :: .junk :: .junk :: .junk :: .junk :: .junk :: .junk :: .junk :: .junk :: .junk :: .junk :: .junk :: .junk :: .junk :: .junk :: .junk :: .junk :: .junk :: .junk :: .junk :: .junk :: .junk :: .junk :: .junk :: .junk :: .junk :: .junk :: .junk :: .junk :: .junk :: .junk :: .junk :: .junk :: .junk :: .junk :: .junk :: .junk :: .junk :: .junk :: .junk :: .junk :: .junk :: .junk :: .junk :: []), []⟩) (fun (zz : Nat × Nat) => zz.1 ≤ (osl a).length ∧ zz.2 = (sparseTo a zz.1).length) (fun (zz : Nat × Nat) => (osl a).length - zz.1) (0, 0) ?hI1 (Fgt.head (Nat.le_refl _) [true, false, false, false, true, true, false, true, false, true, false, false, false, false, false, false, false, false, false, false, false, false, false, false, false, false, false, false, false, false, false, false, false, false, false, false, false, false, false, false, false, false, false, false, false, false, true, true, true] ?hT1 ?hH1) ?hB1
    case hT1 => first | (simp (disch := omega) only [hds, liveT, cleanAV, cleanCell, clean1, cleanBlk, reduceIte, Int.reduceSub, Int.reduceAdd, Int.reduceNeg]; done) | rfl
    case hH1 => first | (simp (disch := omega) only [hds, liveT, cleanAV, cleanCell, clean1, cleanBlk, reduceIte, Int.reduceSub, Int.reduceAdd, Int.reduceNeg]; done) | rfl
    · dsimp only; exact ⟨by omega, rfl⟩
    rintro ⟨i, k⟩ ⟨hi, hk⟩
    dsimp only at hi hk
    have hk8 := hsl8 i
    rw [← hk] at hk8
    by_cases him : i = (osl a).length
    · have hll := hlt2 (osl a).length
      have hg2 := hgt2 (osl a).length
      have hkl : k = (osl ts).length := by rw [hk, him, hls]
      repeat (first | (with_reducible first | refine zw10 ?_ | refine zw1 ?_ | refine zw4 ?_ | refine zw18 ?_ | refine zw19 ?_ | refine zw11 ?_ | refine zw12 ?_ | refine zw14 ?_ | refine zw2 ?_ | refine zw5 ?_ | refine zw9 ?_ | refine zw13 ?_ | refine zw3 ?_ | refine zw6 ?_ | refine zw8 ?_ | refine zw15 ?_ | refine zw16 ?_ | refine zw17 ?_ | refine blk_o rfl ?_) | ((with_reducible first | refine zb1 mixed (fun K hK => ?_) | refine zb2 (fun K hK => ?_) | refine zb3 (fun K hK => ?_)); simp (disch := first | omega | (simp only [dls]; omega)) only [std, cev, cstep, St.ev, putT, AV.cells?, AV.int?, AV.bool?, AV.str?, readN, mkAV, putN, guardWant, bound, Value.oneCell', opO, putSt, reduceIte, reduceCtorEq, Int.reduceToNat, Nat.reduceAdd, Nat.reduceSub, Nat.reduceMul, Int.reduceAdd, Int.reduceSub, Int.reduceMul, Int.reduceNeg, fU, constAV_arr, cons_beq_nil, nil_beq_nil]; subst hK))
      generalize d.map (·.drop (osl a).length) = d2 at *
      refine awp_loop (fun (zz : Nat) => ⟨(.junk :: .junk :: .junk :: .junk :: aB false :: aT ts :: .junk :: .junk :: .junk :: aI k :: .junk :: .junk :: .junk :: .junk :: .junk :: .junk :: .junk :: .junk :: .junk :: .junk :: .junk :: .junk :: .junk :: .junk :: .junk :: .junk :: .junk :: .junk :: .junk :: .junk :: .junk :: .junk :: .junk :: .junk :: .junk :: .junk :: .junk :: .junk :: .junk :: .junk :: .junk :: .junk :: .junk :: .junk :: .junk :: .junk :: .junk :: .junk :: .junk :: .junk :: .junk :: .junk :: .junk :: .junk :: .junk :: .junk :: .junk :: .junk :: .junk :: .junk :: .junk :: .junk :: .junk :: .junk :: .junk :: .junk :: .junk :: .junk :: .junk :: .junk :: .junk :: .junk :: .junk :: .junk :: .junk :: .junk :: .junk :: .junk :: .junk :: .junk :: .junk :: .junk :: .junk :: .junk :: .junk :: .junk :: .junk :: .junk :: .junk :: .junk :: .junk :: .junk :: aV d2 :: aI (osl d2).length :: aI zz :: .junk :: .junk :: .junk :: .junk :: .junk :: .junk :: .junk :: .junk :: .junk :: .junk :: .junk :: .junk :: .junk :: .junk :: []), []⟩) (fun (zz : Nat) => zz ≤ (osl d2).length) (fun (zz : Nat) => (osl d2).length - zz) (0) ?hI2 (Fgt.head (Nat.le_refl _) [false, false, false, false, true, true, false, false, false, true, false, false, false, false, false, false, false, false, false, false, false, false, false, false, false, false, false, false, false, false, false, false, false, false, false, false, false, false, false, false, false, false, false, false, false, false, false, false, false, false, false, false, false, false, false, false, false, false, false, false, false, false, false, false, false, false, false, false, false, false, false, false, false, false, false, false, false, false, false, false, false, false, false, false, false, false, false, false, false, false, false, false, true, true, true] ?hT2 ?hH2) ?hB2
      case hT2 => first | (simp (disch := omega) only [hds, liveT, cleanAV, cleanCell, clean1, cleanBlk, reduceIte, Int.reduceSub, Int.reduceAdd, Int.reduceNeg]; done) | rfl
      case hH2 => first | (simp (disch := omega) only [hds, liveT, cleanAV, cleanCell, clean1, cleanBlk, reduceIte, Int.reduceSub, Int.reduceAdd, Int.reduceNeg]; done) | rfl
      · exact Nat.zero_le _
      intro j hj
      by_cases hjm : j = (osl d2).length
      · repeat (first | (with_reducible first | refine zw10 ?_ | refine zw1 ?_ | refine zw4 ?_ | refine zw18 ?_ | refine zw19 ?_ | refine zw11 ?_ | refine zw12 ?_ | refine zw14 ?_ | refine zw2 ?_ | refine zw5 ?_ | refine zw9 ?_ | refine zw13 ?_ | refine zw3 ?_ | refine zw6 ?_ | refine zw8 ?_ | refine zw15 ?_ | refine zw16 ?_ | refine zw17 ?_ | refine blk_o rfl ?_) | ((with_reducible first | refine zb1 mixed (fun K hK => ?_) | refine zb2 (fun K hK => ?_) | refine zb3 (fun K hK => ?_)); simp (disch := first | omega | (simp only [dls]; omega)) only [std, cev, cstep, St.ev, putT, AV.cells?, AV.int?, AV.bool?, AV.str?, readN, mkAV, putN, guardWant, bound, Value.oneCell', opO, putSt, reduceIte, reduceCtorEq, Int.reduceToNat, Nat.reduceAdd, Nat.reduceSub, Nat.reduceMul, Int.reduceAdd, Int.reduceSub, Int.reduceMul, Int.reduceNeg, fU, constAV_arr, cons_beq_nil, nil_beq_nil]; subst hK) | (apply call_any_g (hw) rfl; (case hg => simp (disch := first | omega | (simp only [dls]; omega)) only [std, cev, cstep, St.ev, putT, AV.cells?, AV.int?, AV.bool?, AV.str?, readN, mkAV, putN, guardWant, bound, Value.oneCell', opO, putSt, reduceIte, reduceCtorEq, Int.reduceToNat, Nat.reduceAdd, Nat.reduceSub, Nat.reduceMul, Int.reduceAdd, Int.reduceSub, Int.reduceMul, Int.reduceNeg, fU, constAV_arr, cons_beq_nil, nil_beq_nil]); (case hcl => (simp only [evs, St.ev, constAV, evl]; (repeat (first | exact closeAVs_nil | (apply closeAVs_cons; (first | (apply close_own3; rfl) | (refine close_ownO rfl ?_; assumption) | rfl)))); done)); (case hu => rfl)))
        exact ⟨_, rfl, rfl⟩
      · have hlt : j < (osl d2).length := by omega
        have hgj := hg2 j hlt
        rw [qOut (by omega)] at hgj
        generalize rawQ 0 = r0 at *
        repeat (first | (with_reducible first | refine zw10 ?_ | refine zw1 ?_ | refine zw4 ?_ | refine zw18 ?_ | refine zw19 ?_ | refine zw11 ?_ | refine zw12 ?_ | refine zw14 ?_ | refine zw2 ?_ | refine zw5 ?_ | refine zw9 ?_ | refine zw13 ?_ | refine zw3 ?_ | refine zw6 ?_ | refine zw8 ?_ | refine zw15 ?_ | refine zw16 ?_ | refine zw17 ?_ | refine blk_o rfl ?_) | ((with_reducible first | refine zb1 mixed (fun K hK => ?_) | refine zb2 (fun K hK => ?_) | refine zb3 (fun K hK => ?_)); simp (disch := first | omega | (simp only [dls]; omega)) only [std, cev, cstep, St.ev, putT, AV.cells?, AV.int?, AV.bool?, AV.str?, readN, mkAV, putN, guardWant, bound, Value.oneCell', opO, putSt, reduceIte, reduceCtorEq, Int.reduceToNat, Nat.reduceAdd, Nat.reduceSub, Nat.reduceMul, Int.reduceAdd, Int.reduceSub, Int.reduceMul, Int.reduceNeg, fU, constAV_arr, cons_beq_nil, nil_beq_nil, fR, hgj]; subst hK) | refine zcA (s0) rfl rfl rfl ?_)
        refine ⟨(j + 1), ?hI3, ?hM3, Fgt.head (Nat.le_refl _) [false, false, false, false, true, true, false, false, false, true, false, false, false, false, false, false, false, false, false, false, false, false, false, false, false, false, false, false, false, false, false, false, false, false, false, false, false, false, false, false, false, false, false, false, false, false, false, false, false, false, false, false, false, false, false, false, false, false, false, false, false, false, false, false, false, false, false, false, false, false, false, false, false, false, false, false, false, false, false, false, false, false, false, false, false, false, false, false, false, false, false, false, true, true, true] ?hT3 ?hH3⟩
        case hT3 => first | (simp (disch := omega) only [hds, liveT, cleanAV, cleanCell, clean1, cleanBlk, reduceIte, Int.reduceSub, Int.reduceAdd, Int.reduceNeg]; done) | rfl
        case hH3 => first | (simp (disch := omega) only [hds, liveT, cleanAV, cleanCell, clean1, cleanBlk, reduceIte, Int.reduceSub, Int.reduceAdd, Int.reduceNeg]; done) | rfl
        · exact Nat.succ_le_of_lt hlt
        · show (osl d2).length - (j + 1) < (osl d2).length - j; omega
    · have hlt : i < (osl a).length := by omega
      have hix : i < (osl x).length := by omega
      have hid : i < (osl d).length := by omega
      have hx1 := hgx i hix
      have hd1 := hgd i hid
      have fq : FitsQ (qAt a i) 3 := (fa.at i).val (by decide)
      have is1 := is_C (qAt a i) (qAt a i) (fq.mono (by decide))
      rw [decide_eq_true rfl] at is1
      have hz := hz0 i
      by_cases h0 : qAt a i = 0
      · rw [decide_eq_true h0] at hz
        have hnx := sparseTo_zero a i h0
        generalize rawQ (qAt a i) = ri at *
        generalize qAt a i = qi at *
        repeat (first | (with_reducible first | refine zw10 ?_ | refine zw1 ?_ | refine zw4 ?_ | refine zw18 ?_ | refine zw19 ?_ | refine zw11 ?_ | refine zw12 ?_ | refine zw14 ?_ | refine zw2 ?_ | refine zw5 ?_ | refine zw9 ?_ | refine zw13 ?_ | refine zw3 ?_ | refine zw6 ?_ | refine zw8 ?_ | refine zw15 ?_ | refine zw16 ?_ | refine zw17 ?_ | refine blk_o rfl ?_) | ((with_reducible first | refine zb1 mixed (fun K hK => ?_) | refine zb2 (fun K hK => ?_) | refine zb3 (fun K hK => ?_)); simp (disch := first | omega | (simp only [dls]; omega)) only [std, cev, cstep, St.ev, putT, AV.cells?, AV.int?, AV.bool?, AV.str?, readN, mkAV, putN, guardWant, bound, Value.oneCell', opO, putSt, reduceIte, reduceCtorEq, Int.reduceToNat, Nat.reduceAdd, Nat.reduceSub, Nat.reduceMul, Int.reduceAdd, Int.reduceSub, Int.reduceMul, Int.reduceNeg, fU, constAV_arr, cons_beq_nil, nil_beq_nil, fR, fD, hx1, hd1, hz]; subst hK) | refine zcA (is1) rfl rfl rfl ?_)
        refine ⟨(i + 1, k), ?hI4, ?hM4, Fgt.head (Nat.le_refl _) [true, false, false, false, true, true, false, true, false, true, false, false, false, false, false, false, false, false, false, false, false, false, false, false, false, false, false, false, false, false, false, false, false, false, false, false, false, false, false, false, false, false, false, false, false, false, true, true, true] ?hT4 ?hH4⟩
        case hT4 => first | (simp (disch := omega) only [hds, liveT, cleanAV, cleanCell, clean1, cleanBlk, reduceIte, Int.reduceSub, Int.reduceAdd, Int.reduceNeg]; done) | rfl
        case hH4 => first | (simp (disch := omega) only [hds, liveT, cleanAV, cleanCell, clean1, cleanBlk, reduceIte, Int.reduceSub, Int.reduceAdd, Int.reduceNeg]; done) | rfl
        · dsimp only; exact ⟨by omega, by rw [hnx]; exact hk⟩
        · dsimp only; omega
      · rw [decide_eq_false h0] at hz
        have hnx := sparseTo_more a i h0
        have hs1 := hsp i hlt h0
        rw [← hk] at hs1
        obtain ⟨hks, hs2⟩ := List.getElem?_eq_some_iff.1 hs1
        have hkn : (sparseTo a (i + 1)).length = k + 1 := by rw [hnx, List.length_append, ← hk]; rfl
        generalize rawQ (qAt a i) = ri at *
        generalize qAt a i = qi at *
        repeat (first | (with_reducible first | refine zw10 ?_ | refine zw1 ?_ | refine zw4 ?_ | refine zw18 ?_ | refine zw19 ?_ | refine zw11 ?_ | refine zw12 ?_ | refine zw14 ?_ | refine zw2 ?_ | refine zw5 ?_ | refine zw9 ?_ | refine zw13 ?_ | refine zw3 ?_ | refine zw6 ?_ | refine zw8 ?_ | refine zw15 ?_ | refine zw16 ?_ | refine zw17 ?_ | refine blk_o rfl ?_) | ((with_reducible first | refine zb1 mixed (fun K hK => ?_) | refine zb2 (fun K hK => ?_) | refine zb3 (fun K hK => ?_)); simp (disch := first | omega | (simp only [dls]; omega)) only [std, cev, cstep, St.ev, putT, AV.cells?, AV.int?, AV.bool?, AV.str?, readN, mkAV, putN, guardWant, bound, Value.oneCell', opO, putSt, reduceIte, reduceCtorEq, Int.reduceToNat, Nat.reduceAdd, Nat.reduceSub, Nat.reduceMul, Int.reduceAdd, Int.reduceSub, Int.reduceMul, Int.reduceNeg, fU, constAV_arr, cons_beq_nil, nil_beq_nil, fR, fD, fT, hx1, hd1, hz, hs2]; subst hK) | refine zcA (is1) rfl rfl rfl ?_ | (apply call_any_g (is1) rfl; (case hg => simp (disch := first | omega | (simp only [dls]; omega)) only [std, cev, cstep, St.ev, putT, AV.cells?, AV.int?, AV.bool?, AV.str?, readN, mkAV, putN, guardWant, bound, Value.oneCell', opO, putSt, reduceIte, reduceCtorEq, Int.reduceToNat, Nat.reduceAdd, Nat.reduceSub, Nat.reduceMul, Int.reduceAdd, Int.reduceSub, Int.reduceMul, Int.reduceNeg, fU, constAV_arr, cons_beq_nil, nil_beq_nil, fR, fD, fT, hx1, hd1, hz, hs2]); (case hcl => (simp only [evs, St.ev, constAV, evl]; (repeat (first | exact closeAVs_nil | (apply closeAVs_cons; (first | (apply close_own3; rfl) | (refine close_ownO rfl ?_; assumption) | rfl)))); done)); (case hu => rfl)))
        refine ⟨(i + 1, k + 1), ?hI5, ?hM5, Fgt.head (Nat.le_refl _) [true, false, false, false, true, true, false, true, false, true, false, false, false, false, false, false, false, false, false, false, false, false, false, false, false, false, false, false, false, false, false, false, false, false, false, false, false, false, false, false, false, false, false, false, false, false, true, true, true] ?hT5 ?hH5⟩
        case hT5 => first | (simp (disch := omega) only [hds, liveT, cleanAV, cleanCell, clean1, cleanBlk, reduceIte, Int.reduceSub, Int.reduceAdd, Int.reduceNeg]; done) | rfl
        case hH5 => first | (simp (disch := omega) only [hds, liveT, cleanAV, cleanCell, clean1, cleanBlk, reduceIte, Int.reduceSub, Int.reduceAdd, Int.reduceNeg]; done) | rfl
        · dsimp only; exact ⟨by omega, hkn.symm⟩
        · dsimp only; omega
  · have c1' : fewB a = false := by simpa using c1
    rw [c1'] at h1
    refine pureC_of (rs := [(RV.tmp 4)]) Try.func3 (fun a w => Try.call3 a w) body3 cc3 (by kernel_rfl) ?_
    rw [Try.ntmps3]
    simp only [frs, Nat.reduceAdd, Nat.reduceSub]
    repeat (first | (with_reducible first | refine zw10 ?_ | refine zw1 ?_ | refine zw4 ?_ | refine zw18 ?_ | refine zw19 ?_ | refine zw11 ?_ | refine zw12 ?_ | refine zw14 ?_ | refine zw2 ?_ | refine zw5 ?_ | refine zw9 ?_ | refine zw13 ?_ | refine zw3 ?_ | refine zw6 ?_ | refine zw8 ?_ | refine zw15 ?_ | refine zw16 ?_ | refine zw17 ?_ | refine blk_o rfl ?_) | ((with_reducible first | refine zb1 mixed (fun K hK => ?_) | refine zb2 (fun K hK => ?_) | refine zb3 (fun K hK => ?_)); simp (disch := first | omega | (simp only [dls]; omega)) only [std, cev, cstep, St.ev, putT, AV.cells?, AV.int?, AV.bool?, AV.str?, readN, mkAV, putN, guardWant, bound, Value.oneCell', opO, putSt, reduceIte, reduceCtorEq, Int.reduceToNat, Nat.reduceAdd, Nat.reduceSub, Nat.reduceMul, Int.reduceAdd, Int.reduceSub, Int.reduceMul, Int.reduceNeg, fU, constAV_arr, cons_beq_nil, nil_beq_nil]; subst hK) | refine zcA (h1) rfl rfl rfl ?_ | refine zcA (hw) rfl rfl rfl ?_)
    exact ⟨_, rfl, rfl⟩

end Go.Proofs.Ytdhkdnmefeeclaa
set_option linter.unusedVariables false
set_option maxRecDepth 100000
set_option maxHeartbeats 4000000
namespace Go.Proofs.Ytdhkdnmefeeclaa
open Go Go.Am Go.Proofs Go.RowKit Go.Off
open Go.ChangeShapes Go.WideShapes Go.ChangeAt
open Go.ChangeMaps (open_string shut_string)

set_option maxRecDepth 100000 in
theorem vecSparse_lifted (os : Os) (started : os.Started) (H : Type) (enc : TypeId × Value → H) :
    ReturnsInHanded {} Try.checked os 3 .any (Rows.vecSparseSpec.pre6 enc Try.prog Try.f3 Rows.vecSparseRow.domain false) (Rows.vecSparseSpec.post enc Try.prog Try.f3 false true false false) := by
  refine returnsInHanded_of_change (C := Try.checked) ownK started (by kernel_rfl) Try.func3
    (ChangeSpec.witness6 (enc := enc) (C := Try.checked) false ⟨#[], #[.slice none 0 0, .int .u8 0], []⟩ 8 (by kernel_rfl) (by kernel_rfl) (by kernel_rfl) (by kernel_rfl)) ?_
  intro W base args ds gs before hval0 hW hcnd _
  have hval : ∀ (j : Nat) t v, Try.f3.params[j]? = some t → args[j]? = some v → Value.okWide Try.prog W .any base t v := hval0
  have hW' := hW
  obtain ⟨p, q, hA0, hV, rfl, hfz, hnd⟩ := hW
  have hA : DataW.TrodAll enc Try.prog W 0 (fun _ => true) true Try.f3.params.toList args.toList ds p := hA0
  rw [Try.params3] at hA hval
  obtain ⟨v0, vs0, d0, ds0, p0, q0, hargs, rfl, rfl, h0, r0⟩ := trodAll_cons hA
  obtain ⟨v1, vs1, d1, ds1, p1, q1, rfl, rfl, rfl, h1, r1⟩ := trodAll_cons r0
  obtain ⟨rfl, rfl, rfl⟩ := trodAll_nil r1
  obtain rfl : args = #[v0, v1] := by cases args; simp_all
  obtain ⟨rfl, rfl⟩ := trodVars_none hV
  obtain ⟨x0, l0, c0, rfl⟩ := okWide_slice Try.underlying22 (hval 0 22 v0 rfl rfl)
  have lt0 : ∀ x ∈ p0, x.block < W.heap.size := by obtain ⟨m, hm⟩ := h0; exact DataW.trod_lt m _ _ _ hm
  obtain ⟨z1, rfl, rfl, rfl, wz1⟩ := open_int Try.underlying5 (hval 1 5 v1 rfl rfl) h1
  obtain ⟨y0, ⟨a0, e0⟩, w0⟩ := avr_cell rd_vec h0 rfl
  have w1 : AVR W (fun _ => False) [] hd00 (.one (.c (.val (.int .u8 z1)))) (.int .u8 z1) := .one _ _ (.c _ _ (.val _ rfl))
  have b1 : 0 ≤ z1 ∧ z1 ≤ 255 := by simpa [Lit.wf, IntKind.min, IntKind.max, IntKind.signed, IntKind.bits] using wz1
  cases e0
  clear hA0 hval0
  refine (law_calls (vecSparse_C a0 z1 b1) (.cons w0 (.cons w1 .nil))).mono fun e W' ⟨he, bel⟩ => ?_
  subst he
  exact ⟨_, rfl, _, _, _, [], _, [], hW', trodAll_mk1 (shut_bool Try.underlying4 _), (trodAll_cons_mk (Below.trod laidK (by kernel_rfl) (of_decide_eq_true (by kernel_rfl)) h0 bel lt0) (trodAll_cons_mk (shut_int Try.underlying5 wz1) trodAll_mk0)), rfl, bel.frame _, fun h => by cases h⟩

theorem vecSparse_k0 : Rows.vecSparseRow.wf (OpenSpec.ofChange Rows.vecSparseSpec) = true := by kernel_rfl
theorem vecSparse_k3 : Try.f3.params.all (Try.prog.readableRec ·) = true := by kernel_rfl
theorem vecSparse_k4 : namedTie Try.prog Rows.vecSparseRow.named Rows.vecSparseSpec.vars = true := by kernel_rfl
theorem vecSparse_k5 : (Rows.vecSparseRow.stops == []) = true := by kernel_rfl
theorem vecSparse_k7 : (Rows.vecSparseRow.knobs == []) = true := by kernel_rfl
theorem vecSparse_k9 : (Rows.vecSparseRow.inPlace == Try.prog.inPlace 3) = true := by kernel_rfl
theorem vecSparse_k10 : (Rows.vecSparseRow.unfollowed == Try.prog.unfollowed 3) = true := by kernel_rfl
theorem vecSparse_k11 : (Rows.vecSparseRow.recurses == Try.prog.recurses 3) = true := by kernel_rfl
theorem vecSparse_k12 : (Rows.vecSparseRow.named == Try.prog.varsNamed 3) = true := by kernel_rfl
theorem vecSparse_k13 : (Rows.vecSparseRow.maps == (Try.f3.params.toList ++ Rows.vecSparseSpec.plain.varTypes Try.prog).any (Try.prog.mapsRec ·)) = true := by kernel_rfl
theorem vecSparse_k14 : (Rows.vecSparseRow.ifaces == (Try.f3.params.toList ++ Rows.vecSparseSpec.plain.varTypes Try.prog).any (Try.prog.ifacesRec ·)) = true := by kernel_rfl
theorem vecSparse_k15 : (Rows.vecSparseRow.mapsOut == Try.prog.mapsAmong Try.f3.resultTypes.toList) = true := by kernel_rfl
theorem vecSparse_k16 : (Rows.vecSparseRow.loops == (Try.f3.params.toList ++ Rows.vecSparseSpec.plain.varTypes Try.prog).any (Try.prog.loopsFrom ·)) = true := by kernel_rfl
theorem vecSparse_k17 : (Rows.vecSparseRow.wideKeys == (Try.f3.params.toList ++ Rows.vecSparseSpec.plain.varTypes Try.prog ++ Try.f3.resultTypes.toList).any (Try.prog.wideKeysFrom ·)) = true := by kernel_rfl
theorem vecSparse_k18 : Rows.vecSparseSpec.vars.all (Try.prog.varReadable ·) = true := by kernel_rfl
theorem vecSparse_k19 : Try.f3.resultTypes.all (fun t => Try.prog.readableRec t && decide (t < Try.prog.types.size)) = true := by kernel_rfl
theorem vecSparse_k20 : (Rows.vecSparseRow.ifacesOut == Try.f3.resultTypes.toList.any (Try.prog.ifacesRec ·)) = true := by kernel_rfl
theorem vecSparse_k21 : (Rows.vecSparseRow.loopsOut == Try.f3.resultTypes.toList.any (Try.prog.loopsFrom ·)) = true := by kernel_rfl
theorem vecSparse_k22 : (Rows.vecSparseRow.plainKeys == Try.prog.plainKeys) = true := by rw [kp22]; rfl
theorem vecSparse_k23 : Rows.vecSparseRow.shortTexts.isNone = true := by kernel_rfl
theorem vecSparse_k26 : (Rows.vecSparseRow.lifted == Try.prog.liftsFinal) = true := by rw [kp26]; rfl
theorem vecSparse_k27 : (Try.prog.make == some Rows.vecSparseRow.make) = true := by rw [kp27]; rfl
theorem vecSparse_k28 : (Rows.vecSparseRow.kinds == (if Rows.vecSparseRow.domain.isEmpty then [] else Try.f3.params.toList.map fun t => match Try.prog.underlying t with | some (.int k) => some k | _ => none)) = true := by kernel_rfl
theorem vecSparse_k29 : (Rows.vecSparseRow.pinned == Rows.vecSparseRow.pinnedBy) = true := by kernel_rfl
theorem vecSparse_k30 : (Rows.vecSparseRow.veiled == (Try.f3.params.toList ++ Rows.vecSparseSpec.plain.varTypes Try.prog ++ Try.f3.resultTypes.toList).any (Try.prog.veiledRec ·)) = true := by kernel_rfl
theorem vecSparse_k31 : Rows.vecSparseRow.veiledFits Try.prog Try.f3.params.toList (Try.f3.params.toList ++ Rows.vecSparseSpec.plain.varTypes Try.prog ++ Try.f3.resultTypes.toList) = true := by kernel_rfl
theorem vecSparse_facts : joinedFacts Try.prog 3 Try.f3 Rows.vecSparseSpec Rows.vecSparseRow = true := (andK (andK (andK (andK (andK (andK (andK (andK (andK (andK (andK (andK (andK (andK (andK (andK (andK (andK (andK (andK (andK (andK (andK (andK (andK (andK (andK (andK (andK (andK (andK vecSparse_k0 kp1) kp2) vecSparse_k3) vecSparse_k4) vecSparse_k5) kp6) vecSparse_k7) kp8) vecSparse_k9) vecSparse_k10) vecSparse_k11) vecSparse_k12) vecSparse_k13) vecSparse_k14) vecSparse_k15) vecSparse_k16) vecSparse_k17) vecSparse_k18) vecSparse_k19) vecSparse_k20) vecSparse_k21) vecSparse_k22) vecSparse_k23) kp24) kp25) vecSparse_k26) vecSparse_k27) vecSparse_k28) vecSparse_k29) vecSparse_k30) vecSparse_k31)
theorem vecSparse_n1 : Try.prog.funcNamed Rows.vecSparseRow.func = some 3 := by kernel_rfl
theorem vecSparse_n3 : Try.f3.isInstance Try.prog Rows.vecSparseRow.origin Rows.vecSparseRow.targs := of_decide_eq_true (by kernel_rfl)
theorem vecSparse_n4 : Try.f3.isWrapper Try.prog Rows.vecSparseRow.wrapper Rows.vecSparseRow.mainSum := by unfold Func.isWrapper; first | (rw [if_pos (by decide +kernel)]; kernel_rfl) | (rw [if_neg (by decide +kernel)]; exact ⟨rfl, rfl⟩)
theorem vecSparse_holds : Rows.VecSparseSaid :=
  OpenClaim.holds_of_wide 3 Try.f3 rfl rfl rfl rfl rfl rfl rfl ⟨rfl, rfl, rfl, rfl, rfl⟩ rfl rfl rfl rfl rfl vecSparse_n1 Try.func3 vecSparse_facts vecSparse_n3 vecSparse_n4
    (fun os started H enc _ => vecSparse_lifted os started H enc)
#print axioms vecSparse_holds
end Go.Proofs.Ytdhkdnmefeeclaa
