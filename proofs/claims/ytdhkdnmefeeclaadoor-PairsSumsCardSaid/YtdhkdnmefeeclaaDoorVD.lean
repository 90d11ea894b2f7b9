/- Rows of fractions. -/
import Derived.Test.YtdhkdnmefeeclaaDoorRows
import Derived.Test.YtdhkdnmefeeclaaDoorA5
import Derived.Test.YtdhkdnmefeeclaaDoorB0
import Derived.Test.YtdhkdnmefeeclaaDoorC3
set_option linter.unusedSimpArgs false
set_option linter.unusedVariables false
set_option linter.unnecessarySimpa false
set_option linter.unusedSimpArgs false
set_option linter.unusedVariables false
set_option maxRecDepth 100000
set_option maxHeartbeats 4000000
namespace Go.Proofs.YtdhkdnmefeeclaaDoor
open Go Go.Am Go.Proofs Go.RowKit Go.Off

def fR (r : RR) : List CV := [.val (.bool r.minus), nr r.size, nr r.den]
abbrev VV := Option (List RR)
abbrev vr (a : VV) : CV := encSl 3 fR a
abbrev aV (a : VV) : AV := .one (.c (vr a))
def zR : RR := ⟨false, none, none⟩
def rAt (a : VV) (i : Nat) : RR := (osl a).getD i zR

theorem FitsQ.add1 {a b : Rat} {L M : Nat} (h1 : FitsQ a L) (h2 : FitsQ b M) : FitsQ (a + b) (L + M + 1) := by
  rw [Rat.add_def']
  have hW : (0 : Nat) < 4294967296 := by decide
  refine fits_mk _ _ (Nat.mul_ne_zero a.den_nz b.den_nz) ?_ ?_
  · have l1 : ∀ {x k : Nat}, (digits x).length ≤ k → x < 4294967296 ^ k := fun {x k} h => by
      have := val_lt (digits x)
      rw [val_digits] at this
      exact Nat.lt_of_lt_of_le this (Nat.pow_le_pow_right hW h)
    have a1 := l1 h1.1
    have a2 := l1 h1.2
    have b1 := l1 h2.1
    have b2 := l1 h2.2
    refine digits_len_le ?_
    have e4 : (a.num * b.den + b.num * a.den).natAbs ≤ a.num.natAbs * b.den + b.num.natAbs * a.den := by
      have := Int.natAbs_add_le (a.num * b.den) (b.num * a.den)
      rwa [Int.natAbs_mul, Int.natAbs_mul, Int.natAbs_natCast, Int.natAbs_natCast] at this
    have e1 := Nat.mul_lt_mul'' a1 b2
    have e2 := Nat.mul_lt_mul'' b1 a2
    rw [← Nat.pow_add] at e1
    rw [← Nat.pow_add, Nat.add_comm M L] at e2
    rw [Nat.pow_succ]
    generalize 4294967296 ^ (L + M) = w at *
    omega
  · have := digits_len_mul a.den b.den; have := h1.2; have := h2.2; omega

/-- A row whose fractions are short. -/
def FitsV (a : VV) (n L : Nat) : Prop := (osl a).length ≤ n ∧ ∀ r ∈ osl a, Fits r L
theorem fits_zR (L : Nat) : Fits zR L := ⟨Nat.zero_le _, Nat.zero_le _⟩
theorem FitsV.at {a : VV} {n L : Nat} (h : FitsV a n L) (i : Nat) : Fits (rAt a i) L := by
  unfold rAt
  rw [List.getD_eq_getElem?_getD]
  cases hi : (osl a)[i]? with
  | none => exact fits_zR L
  | some r => exact h.2 r (List.mem_of_getElem? hi)
theorem fitsQ_zero (L : Nat) (hL : 1 ≤ L) : FitsQ 0 L := by
  refine ⟨?_, ?_⟩
  · show (digits 0).length ≤ L; rw [digits_zero]; exact Nat.zero_le _
  · show (digits 1).length ≤ L; rw [len1]; exact hL
theorem fitsQ_mul {a b : RR} {L M : Nat} (h1 : Fits a L) (h2 : Fits b M) (hL : 1 ≤ L) (hM : 1 ≤ M) : FitsQ (a.val * b.val) (L + M) := (h1.val hL).mul (h2.val hM)

theorem sgn_zero_iff (z : Int) : sgn z = 0 ↔ z = 0 := by unfold sgn; split <;> (try split) <;> omega
theorem top_zero (r : RR) : r.top = 0 ↔ r.val = 0 := by
  unfold RR.val
  rw [Rat.mkRat_eq_zero r.bot_ne]

def qAt (a : VV) (i : Nat) : Rat := (rAt a i).val
theorem zR_val : zR.val = 0 := rfl
theorem rAt_out {a : VV} {i : Nat} (h : (osl a).length ≤ i) : rAt a i = zR := by
  simp only [rAt, List.getD_eq_getElem?_getD]; rw [List.getElem?_eq_none_iff.2 h]; rfl
theorem rAt_in {a : VV} {i : Nat} (h : i < (osl a).length) : rAt a i = (osl a)[i] := by
  simp only [rAt, List.getD_eq_getElem?_getD]; rw [List.getElem?_eq_getElem h]; rfl

def fI (n : Int) : List CV := [.val (.int .i64 n)]
theorem encB_snoc_row (l : List RR) (r : RR) : encB fR l ++ [[Cell.c (.val (.bool r.minus)), Cell.c (nr r.size), Cell.c (nr r.den)]] = encB fR (l ++ [r]) := by simp [encB, fR]

end Go.Proofs.YtdhkdnmefeeclaaDoor
set_option linter.unusedSimpArgs false
set_option linter.unusedVariables false
set_option maxRecDepth 100000
set_option maxHeartbeats 4000000
namespace Go.Proofs.YtdhkdnmefeeclaaDoor
open Go Go.Am Go.Proofs Go.RowKit Go.Off

abbrev c40_k1 : CC := (.seq (.reg [⟨(some 18), none, (.mv (.tmp 3))⟩, ⟨(some 2), none, (.mv (.tmp 18))⟩]) .ret)
abbrev c40_b1 : CC := (.seq (.reg [⟨(some 9), none, (.bin .lss (.tmp 8) (.tmp 7))⟩]) (.seq (.cond (.tmp 9) .skip (.exit 0)) (.seq (.block 1 (.seq (.reg [⟨(some 10), none, (.iaddr 1 none (.tmp 6) (.tmp 8))⟩, ⟨(some 11), none, (.load 1 false (.tmp 10))⟩, ⟨(some 5), none, (.mv (.tmp 11))⟩]) (.reg [⟨(some 12), none, (.mv (.tmp 3))⟩, ⟨(some 13), none, (.mv (.tmp 5))⟩, ⟨(some 14), none, (.callf (.func 26) [(.tmp 13)])⟩, ⟨(some 15), none, (.mkrow 45 3 [(.tmp 14)])⟩, ⟨(some 16), none, (.append 45 3 56 (.tmp 12) (.tmp 15))⟩, ⟨(some 3), none, (.mv (.tmp 16))⟩]))) (.reg [⟨(some 17), none, (.bin .add (.tmp 8) (.const (.int .i64 (1))))⟩, ⟨(some 8), none, (.mv (.tmp 17))⟩]))))
abbrev c40 : CC := (.seq (.reg [⟨(some 2), none, (.mv (.const (.slice none 0 0)))⟩]) (.seq (.reg [⟨(some 3), none, (.mv (.const (.slice none 0 0)))⟩]) (.seq (.seq (.reg [⟨(some 6), none, (.mv (.tmp 0))⟩, ⟨(some 7), none, (.len false (.tmp 6))⟩, ⟨(some 8), none, (.mv (.const (.int .i64 (0))))⟩]) (.block 0 (.loop c40_b1))) c40_k1)))
theorem cc40 : ccode Tryd.prog [] (Tryd.f40.body.getD .skip) = some c40 := by kernel_rfl
theorem body40 : Tryd.f40.body = some (Tryd.f40.body.getD .skip) := rfl

theorem ints_C (a : List Int) (hl : a.length ≤ 1000000) (hb : ∀ n ∈ a, -9223372036854775808 ≤ n ∧ n ≤ 9223372036854775807) :
    PureC Tryd.prog 40 [.one (.c (encSl 1 fI (some a)))] (.fresh 45 3 ((a.map fun n : Int => rawQ (n : Rat)).map fR) (!a.isEmpty)) := by
  refine pureC_of (rs := [(RV.tmp 2)]) Tryd.func40 (fun a w => Tryd.call40 a w) body40 cc40 (by kernel_rfl) ?_
  rw [Tryd.ntmps40]
  simp only [frs, Nat.reduceAdd, Nat.reduceSub]
  repeat (first | (with_reducible first | refine Way.imp ?_ | refine blk_o rfl ?_) | ((with_reducible refine WayR.imp (fun K hK => ?_)); simp (disch := first | omega | (simp only [dls]; omega)) only [std, reduceIte, reduceCtorEq, Int.reduceToNat, Nat.reduceAdd, Nat.reduceSub, Nat.reduceMul, Int.reduceAdd, Int.reduceSub, Int.reduceMul, Int.reduceNeg, fU]; subst hK))
  refine AWp.fgt ?_ (Fgt.openNil (i := 3) rfl 45 3)
  simp only [List.set_cons_succ, List.set_cons_zero, List.length_nil, List.length_cons, List.nil_append, List.cons_append, Nat.reduceAdd]
  refine awp_loop (fun (zz : Nat × (List RR) × Nat × Bool) => ⟨(.one (.c (encSl 1 fI (some a))) :: .junk :: .one (.c (.val (.slice none 0 0))) :: .one (.own 0 zz.2.2.1) :: .junk :: .junk :: .one (.c (encSl 1 fI (some a))) :: aI a.length :: aI zz.1 :: .junk :: .junk :: .junk :: .junk :: .junk :: .junk :: .junk :: .junk :: .junk :: .junk :: []), [⟨zz.2.2.1, 45, 3, encB fR zz.2.1, true, zz.2.2.2⟩]⟩) (fun (zz : Nat × (List RR) × Nat × Bool) => zz.1 ≤ a.length ∧ zz.2.1 = (a.take zz.1).map (fun n : Int => rawQ (n : Rat)) ∧ zz.2.2.2 = !zz.2.1.isEmpty) (fun (zz : Nat × (List RR) × Nat × Bool) => a.length - zz.1) (0, [], 0, false) ?hI1 (Fgt.head (Nat.zero_le 1) [true, false, true, true, false, false, true, true, true] ?hT1 ?hH1) ?hB1
  case hT1 => first | (simp (disch := omega) only [hds, liveT, cleanAV, cleanCell, clean1, cleanBlk, reduceIte, Int.reduceSub, Int.reduceAdd, Int.reduceNeg, encB_nil]; done) | rfl
  case hH1 => first | (simp (disch := omega) only [hds, liveT, cleanAV, cleanCell, clean1, cleanBlk, reduceIte, Int.reduceSub, Int.reduceAdd, Int.reduceNeg, encB_nil]; done) | rfl
  · dsimp only; exact ⟨by omega, rfl, rfl⟩
  rintro ⟨i, out, v, nn⟩ ⟨hi, ho, hnn⟩
  dsimp only at hi ho hnn
  by_cases him : i = a.length
  · repeat (first | (with_reducible first | refine Way.imp ?_ | refine blk_o rfl ?_) | ((with_reducible refine WayR.imp (fun K hK => ?_)); simp (disch := first | omega | (simp only [dls]; omega)) only [std, reduceIte, reduceCtorEq, Int.reduceToNat, Nat.reduceAdd, Nat.reduceSub, Nat.reduceMul, Int.reduceAdd, Int.reduceSub, Int.reduceMul, Int.reduceNeg, fU]; subst hK))
    refine ⟨_, rfl, ?_⟩
    rw [him, List.take_length] at ho
    have he : (!a.isEmpty) = nn := by rw [hnn, ho]; cases a <;> rfl
    rw [he, ← ho]
    exact Ends.fresh_enc rfl
  · have hlt : i < a.length := by omega
    have hbi := hb a[i] (List.getElem_mem hlt)
    have hint := rint_C a[i] hbi.1 hbi.2
    have hol : out.length = i := by rw [ho, List.length_map, List.length_take]; omega
    repeat (first | (with_reducible first | refine Way.imp ?_ | refine blk_o rfl ?_) | ((with_reducible refine WayR.imp (fun K hK => ?_)); simp (disch := first | omega | (simp only [dls]; omega)) only [std, reduceIte, reduceCtorEq, Int.reduceToNat, Nat.reduceAdd, Nat.reduceSub, Nat.reduceMul, Int.reduceAdd, Int.reduceSub, Int.reduceMul, Int.reduceNeg, fU, fI]; subst hK) | refine zcA (hint) rfl rfl rfl ?_)
    refine ⟨(i + 1, out ++ [rawQ (a[i] : Rat)], v + 1, true), ?hI2, ?hM2, Fgt.head (Nat.zero_le 1) [true, false, true, true, false, false, true, true, true] ?hT2 ?hH2⟩
    case hT2 => first | (simp (disch := omega) only [hds, liveT, cleanAV, cleanCell, clean1, cleanBlk, reduceIte, Int.reduceSub, Int.reduceAdd, Int.reduceNeg, encB_snoc_row, List.isEmpty_cons, Bool.or_true, Bool.not_false]; done) | rfl
    case hH2 => first | (simp (disch := omega) only [hds, liveT, cleanAV, cleanCell, clean1, cleanBlk, reduceIte, Int.reduceSub, Int.reduceAdd, Int.reduceNeg, encB_snoc_row, List.isEmpty_cons, Bool.or_true, Bool.not_false]; done) | rfl
    · dsimp only
      refine ⟨by omega, ?_, by simp⟩
      rw [ho, List.take_succ_eq_append_getElem hlt, List.map_append]
      rfl
    · dsimp only; omega

end Go.Proofs.YtdhkdnmefeeclaaDoor
set_option linter.unusedSimpArgs false
set_option linter.unusedVariables false
set_option maxRecDepth 100000
set_option maxHeartbeats 4000000
namespace Go.Proofs.YtdhkdnmefeeclaaDoor
open Go Go.Am Go.Proofs Go.RowKit Go.Off

theorem ints_R (a : List Int) (hl : a.length ≤ 1000000) (hb : ∀ n ∈ a, -9223372036854775808 ≤ n ∧ n ≤ 9223372036854775807) : PureC Tryd.prog 40 [.one (.c (encSl 1 fI (some a)))] (.ret (aV (rowO (a.map fun n : Int => rawQ (n : Rat))))) :=
  PureC.fresh_rowO ((ints_C a hl hb).to (by cases a <;> rfl))
def shortR (r : RR) : Bool := decide ((osl r.size).length ≤ 3) && decide ((osl r.den).length ≤ 3)
theorem shortR_fits {r : RR} (h : shortR r = true) : Fits r 3 := by
  simp only [shortR, Bool.and_eq_true, decide_eq_true_eq] at h
  exact h
def fewTo (a : VV) (k : Nat) : Bool := (List.range k).all fun i => shortR (rAt a i)
def fewB (a : VV) : Bool := fewTo a (min (osl a).length 9) && decide ((osl a).length ≤ 8)
theorem fewTo_succ (a : VV) (k : Nat) : fewTo a (k + 1) = (fewTo a k && shortR (rAt a k)) := by
  unfold fewTo; rw [List.range_succ, List.all_append]; simp
theorem fewTo_false {a : VV} {k m : Nat} (hk : k < m) (h : shortR (rAt a k) = false) : fewTo a m = false := by
  unfold fewTo
  rw [List.all_eq_false]
  exact ⟨k, List.mem_range.2 hk, by simp [h]⟩
theorem fewB_fits {a : VV} (h : fewB a = true) : FitsV a 8 3 := by
  simp only [fewB, Bool.and_eq_true, decide_eq_true_eq] at h
  refine ⟨h.2, fun r hr => ?_⟩
  obtain ⟨i, hi, rfl⟩ := List.getElem_of_mem hr
  have := List.all_eq_true.1 h.1 i (List.mem_range.2 (by omega))
  rw [rAt_in hi] at this
  exact shortR_fits this

abbrev c44_k1 : CC := (.seq (.reg [⟨(some 31), none, (.mv (.tmp 0))⟩, ⟨(some 32), none, (.len false (.tmp 31))⟩, ⟨(some 33), none, (.bin .leq (.tmp 32) (.const (.int .i64 (8))))⟩, ⟨(some 2), none, (.mv (.tmp 33))⟩]) .ret)
abbrev c44_b1 : CC := (.seq (.seq (.reg [⟨(some 4), none, (.mv (.tmp 3))⟩, ⟨(some 5), none, (.mv (.tmp 0))⟩, ⟨(some 6), none, (.len false (.tmp 5))⟩, ⟨(some 7), none, (.bin .lss (.tmp 4) (.tmp 6))⟩, ⟨(some 8), none, (.mv (.tmp 7))⟩, ⟨(some 9), (some (8, true)), (.mv (.tmp 3))⟩, ⟨(some 10), (some (8, true)), (.bin .leq (.tmp 9) (.const (.int .i64 (8))))⟩, ⟨(some 11), none, (.pick (.tmp 8) (.tmp 10) (.const (.bool false)))⟩]) (.cond (.tmp 11) .skip (.exit 0))) (.seq (.block 1 (.seq (.reg [⟨(some 14), none, (.mv (.tmp 0))⟩, ⟨(some 15), none, (.mv (.tmp 3))⟩, ⟨(some 16), none, (.iaddr 3 none (.tmp 14) (.tmp 15))⟩, ⟨(some 17), none, (.faddr 0 (.tmp 16))⟩, ⟨(some 18), none, (.faddr 1 (.tmp 17))⟩, ⟨(some 19), none, (.load 1 false (.tmp 18))⟩, ⟨(some 20), none, (.len false (.tmp 19))⟩, ⟨(some 21), none, (.bin .gtr (.tmp 20) (.const (.int .i64 (3))))⟩, ⟨(some 22), none, (.mv (.tmp 21))⟩, ⟨(some 23), (some (22, false)), (.mv (.tmp 0))⟩, ⟨(some 24), (some (22, false)), (.mv (.tmp 3))⟩, ⟨(some 25), (some (22, false)), (.iaddr 3 none (.tmp 23) (.tmp 24))⟩, ⟨(some 26), (some (22, false)), (.faddr 2 (.tmp 25))⟩, ⟨(some 27), (some (22, false)), (.load 1 false (.tmp 26))⟩, ⟨(some 28), (some (22, false)), (.len false (.tmp 27))⟩, ⟨(some 29), (some (22, false)), (.bin .gtr (.tmp 28) (.const (.int .i64 (3))))⟩, ⟨(some 30), none, (.pick (.tmp 22) (.const (.bool true)) (.tmp 29))⟩]) (.cond (.tmp 30) (.seq (.reg [⟨(some 2), none, (.mv (.const (.bool false)))⟩]) .ret) .skip))) (.reg [⟨(some 12), none, (.mv (.tmp 3))⟩, ⟨(some 13), none, (.bin .add (.tmp 12) (.const (.int .i64 (1))))⟩, ⟨(some 3), none, (.mv (.tmp 13))⟩])))
abbrev c44 : CC := (.seq (.reg [⟨(some 2), none, (.mv (.const (.bool false)))⟩]) (.seq (.seq (.reg [⟨(some 3), none, (.mv (.const (.int .i64 (0))))⟩]) (.block 0 (.loop c44_b1))) c44_k1))
theorem cc44 : ccode Tryd.prog [] (Tryd.f44.body.getD .skip) = some c44 := by kernel_rfl
theorem body44 : Tryd.f44.body = some (Tryd.f44.body.getD .skip) := rfl

theorem few_C (a : VV) : PureC Tryd.prog 44 [aV a] (.ret (aB (fewB a))) := by
  unfold fewB
  refine pureC_of (rs := [(RV.tmp 2)]) Tryd.func44 (fun a w => Tryd.call44 a w) body44 cc44 (by kernel_rfl) ?_
  rw [Tryd.ntmps44]
  simp only [frs, Nat.reduceAdd, Nat.reduceSub]
  repeat (first | (with_reducible first | refine Way.imp ?_ | refine blk_o rfl ?_) | ((with_reducible refine WayR.imp (fun K hK => ?_)); simp (disch := first | omega | (simp only [dls]; omega)) only [std, reduceIte, reduceCtorEq, Int.reduceToNat, Nat.reduceAdd, Nat.reduceSub, Nat.reduceMul, Int.reduceAdd, Int.reduceSub, Int.reduceMul, Int.reduceNeg, fU]; subst hK))
  refine awp_loop (fun (zz : Nat) => ⟨(aV a :: .junk :: aB false :: aI zz :: .junk :: .junk :: .junk :: .junk :: .junk :: .junk :: .junk :: .junk :: .junk :: .junk :: .junk :: .junk :: .junk :: .junk :: .junk :: .junk :: .junk :: .junk :: .junk :: .junk :: .junk :: .junk :: .junk :: .junk :: .junk :: .junk :: .junk :: .junk :: .junk :: .junk :: []), []⟩) (fun (zz : Nat) => zz ≤ min (osl a).length 9 ∧ fewTo a zz = true) (fun (zz : Nat) => 10 - zz) (0) ?hI1 (Fgt.head (Nat.le_refl _) [true, false, true, true] ?hT1 ?hH1) ?hB1
  case hT1 => first | (simp (disch := omega) only [hds, liveT, cleanAV, cleanCell, clean1, cleanBlk, reduceIte, Int.reduceSub, Int.reduceAdd, Int.reduceNeg]; done) | rfl
  case hH1 => first | (simp (disch := omega) only [hds, liveT, cleanAV, cleanCell, clean1, cleanBlk, reduceIte, Int.reduceSub, Int.reduceAdd, Int.reduceNeg]; done) | rfl
  · exact ⟨Nat.zero_le _, rfl⟩
  rintro i ⟨hi, hs⟩
  by_cases h1 : i < (osl a).length
  · by_cases h2 : i ≤ 8
    · have hsh : shortR (rAt a i) = (decide ((osl (osl a)[i].size).length ≤ 3) && decide ((osl (osl a)[i].den).length ≤ 3)) := by unfold shortR; rw [rAt_in h1]
      by_cases s1 : (osl (osl a)[i].size).length ≤ 3
      · by_cases s2 : (osl (osl a)[i].den).length ≤ 3
        · repeat (first | (with_reducible first | refine Way.imp ?_ | refine blk_o rfl ?_) | ((with_reducible refine WayR.imp (fun K hK => ?_)); simp (disch := first | omega | (simp only [dls]; omega)) only [std, reduceIte, reduceCtorEq, Int.reduceToNat, Nat.reduceAdd, Nat.reduceSub, Nat.reduceMul, Int.reduceAdd, Int.reduceSub, Int.reduceMul, Int.reduceNeg, fU, fR]; subst hK))
          refine ⟨(i + 1), ?hI2, ?hM2, Fgt.head (Nat.le_refl _) [true, false, true, true] ?hT2 ?hH2⟩
          case hT2 => first | (simp (disch := omega) only [hds, liveT, cleanAV, cleanCell, clean1, cleanBlk, reduceIte, Int.reduceSub, Int.reduceAdd, Int.reduceNeg]; done) | rfl
          case hH2 => first | (simp (disch := omega) only [hds, liveT, cleanAV, cleanCell, clean1, cleanBlk, reduceIte, Int.reduceSub, Int.reduceAdd, Int.reduceNeg]; done) | rfl
          · exact ⟨by omega, by rw [fewTo_succ, hs, hsh, decide_eq_true s1, decide_eq_true s2]; rfl⟩
          · show 10 - (i + 1) < 10 - i; omega
        · rw [fewTo_false (show i < min (osl a).length 9 by omega) (by rw [hsh, decide_eq_false s2]; simp)]
          repeat (first | (with_reducible first | refine Way.imp ?_ | refine blk_o rfl ?_) | ((with_reducible refine WayR.imp (fun K hK => ?_)); simp (disch := first | omega | (simp only [dls]; omega)) only [std, reduceIte, reduceCtorEq, Int.reduceToNat, Nat.reduceAdd, Nat.reduceSub, Nat.reduceMul, Int.reduceAdd, Int.reduceSub, Int.reduceMul, Int.reduceNeg, fU, fR]; subst hK))
          exact ⟨_, rfl, rfl⟩
      · rw [fewTo_false (show i < min (osl a).length 9 by omega) (by rw [hsh, decide_eq_false s1]; simp)]
        repeat (first | (with_reducible first | refine Way.imp ?_ | refine blk_o rfl ?_) | ((with_reducible refine WayR.imp (fun K hK => ?_)); simp (disch := first | omega | (simp only [dls]; omega)) only [std, reduceIte, reduceCtorEq, Int.reduceToNat, Nat.reduceAdd, Nat.reduceSub, Nat.reduceMul, Int.reduceAdd, Int.reduceSub, Int.reduceMul, Int.reduceNeg, fU, fR]; subst hK))
        exact ⟨_, rfl, rfl⟩
    · have h9 : i = min (osl a).length 9 := by omega
      rw [← h9, hs, decide_eq_false (by omega)]
      repeat (first | (with_reducible first | refine Way.imp ?_ | refine blk_o rfl ?_) | ((with_reducible refine WayR.imp (fun K hK => ?_)); simp (disch := first | omega | (simp only [dls]; omega)) only [std, reduceIte, reduceCtorEq, Int.reduceToNat, Nat.reduceAdd, Nat.reduceSub, Nat.reduceMul, Int.reduceAdd, Int.reduceSub, Int.reduceMul, Int.reduceNeg, fU]; subst hK))
      exact ⟨_, rfl, rfl⟩
  · have h9 : i = min (osl a).length 9 := by omega
    rw [← h9, hs]
    by_cases h8 : (osl a).length ≤ 8
    · rw [decide_eq_true h8]
      repeat (first | (with_reducible first | refine Way.imp ?_ | refine blk_o rfl ?_) | ((with_reducible refine WayR.imp (fun K hK => ?_)); simp (disch := first | omega | (simp only [dls]; omega)) only [std, reduceIte, reduceCtorEq, Int.reduceToNat, Nat.reduceAdd, Nat.reduceSub, Nat.reduceMul, Int.reduceAdd, Int.reduceSub, Int.reduceMul, Int.reduceNeg, fU]; subst hK))
      exact ⟨_, rfl, rfl⟩
    · rw [decide_eq_false h8]
      repeat (first | (with_reducible first | refine Way.imp ?_ | refine blk_o rfl ?_) | ((with_reducible refine WayR.imp (fun K hK => ?_)); simp (disch := first | omega | (simp only [dls]; omega)) only [std, reduceIte, reduceCtorEq, Int.reduceToNat, Nat.reduceAdd, Nat.reduceSub, Nat.reduceMul, Int.reduceAdd, Int.reduceSub, Int.reduceMul, Int.reduceNeg, fU]; subst hK))
      exact ⟨_, rfl, rfl⟩
theorem cmpQ_pos (a b : Rat) : (0 < cmpQ a b) ↔ b < a := by
  unfold cmpQ
  by_cases h1 : a < b
  · rw [if_pos h1]; constructor
    · intro h; exact absurd h (by decide)
    · intro h; grind
  · rw [if_neg h1]
    by_cases h2 : b < a
    · rw [if_pos h2]; simp [h2]
    · rw [if_neg h2]; simp [h2]
theorem cmpQ_neg (a b : Rat) : (cmpQ a b < 0) ↔ a < b := by
  unfold cmpQ
  by_cases h1 : a < b
  · rw [if_pos h1]; simp [h1]
  · rw [if_neg h1]
    by_cases h2 : b < a
    · rw [if_pos h2]; simp [h1]
    · rw [if_neg h2]; simp [h1]

end Go.Proofs.YtdhkdnmefeeclaaDoor
set_option linter.unusedSimpArgs false
set_option linter.unusedVariables false
set_option maxRecDepth 100000
set_option maxHeartbeats 4000000
namespace Go.Proofs.YtdhkdnmefeeclaaDoor
open Go Go.Am Go.Proofs Go.RowKit Go.Off

theorem rd_u32 : Reads Tryd.prog 120 (fun l => ∃ d : UInt32, True ∧ l = fU d) := reads_mono (reads_int Tryd.underlying120) (by
  rintro l ⟨n, hw, rfl⟩
  have hb : 0 ≤ n ∧ n ≤ 4294967295 := by simpa [Lit.wf, IntKind.min, IntKind.max, IntKind.signed, IntKind.bits] using hw
  refine ⟨UInt32.ofNat n.toNat, trivial, ?_⟩
  have : (UInt32.ofNat n.toNat).toNat = n.toNat := by simp [UInt32.toNat_ofNat, Nat.mod_eq_of_lt (show n.toNat < 4294967296 by omega)]
  simp only [fU, this]
  rw [Int.toNat_of_nonneg hb.1])
theorem rd_nat : Reads Tryd.prog 41 (fun l => ∃ r : Row, l = [nr r]) := reads_mono (reads_slice (k := 1) Tryd.underlying41 (by kernel_rfl) (by decide) (fun a => rfl) rd_u32) (by
  rintro l ⟨s, _, rfl⟩
  exact ⟨s, rfl⟩)
theorem rd_bool : Reads Tryd.prog 4 (fun l => ∃ b : Bool, l = [.val (.bool b)]) := reads_bool Tryd.underlying4
theorem rd_int : Reads Tryd.prog 3 (fun l => ∃ n : Int, (-9223372036854775808 ≤ n ∧ n ≤ 9223372036854775807) ∧ l = [.val (.int .i64 n)]) := reads_mono (reads_int Tryd.underlying3) (by
  rintro l ⟨n, hw, rfl⟩
  exact ⟨n, by simpa [Lit.wf, IntKind.min, IntKind.max, IntKind.signed, IntKind.bits] using hw, rfl⟩)
theorem rd_whole : Reads Tryd.prog 43 (fun l => ∃ (b : Bool) (r : Row), l = [.val (.bool b), nr r]) := reads_mono (reads_struct2 (c0 := 1) (c1 := 1) Tryd.underlying43 rfl (by kernel_rfl) rfl (by kernel_rfl) (by kernel_rfl) rd_bool rd_nat) (by
  rintro l ⟨l0, l1, ⟨b, rfl⟩, ⟨r, rfl⟩, rfl⟩
  exact ⟨b, r, rfl⟩)
theorem rd_rat : Reads Tryd.prog 45 (fun l => ∃ r : RR, True ∧ l = fR r) := reads_mono (reads_struct2 (c0 := 2) (c1 := 1) Tryd.underlying45 rfl (by kernel_rfl) rfl (by kernel_rfl) (by kernel_rfl) rd_whole rd_nat) (by
  rintro l ⟨l0, l1, ⟨b, s, rfl⟩, ⟨d, rfl⟩, rfl⟩
  exact ⟨⟨b, s, d⟩, trivial, rfl⟩)
theorem rd_vec : Reads Tryd.prog 71 (fun l => ∃ a : VV, l = [vr a]) := reads_mono (reads_slice (k := 3) Tryd.underlying71 (by kernel_rfl) (by decide) (fun a => rfl) rd_rat) (by
  rintro l ⟨s, _, rfl⟩
  exact ⟨s, rfl⟩)

end Go.Proofs.YtdhkdnmefeeclaaDoor
