/- Walks of pairs: item, Together. -/
import Derived.Test.YtdhkdnmefeeclaaDoorMR
import Derived.Test.YtdhkdnmefeeclaaDoorUX
set_option linter.unusedSimpArgs false
set_option linter.unusedVariables false
set_option linter.unnecessarySimpa false
set_option linter.unusedSimpArgs false
set_option linter.unusedVariables false
set_option maxRecDepth 100000
set_option maxHeartbeats 4000000
namespace Go.Proofs.YtdhkdnmefeeclaaDoor
open Go Go.Am Go.Proofs Go.RowKit Go.Off

def itemK (k : Int) : Bool := decide (0 ≤ k) && decide (k < 12)
abbrev c54 : CC := (.seq (.reg [⟨(some 2), none, (.mv (.const (.bool false)))⟩]) (.seq (.reg [⟨(some 3), none, (.mv (.tmp 0))⟩, ⟨(some 4), none, (.bin .geq (.tmp 3) (.const (.int .i64 (0))))⟩, ⟨(some 5), none, (.mv (.tmp 4))⟩, ⟨(some 6), (some (5, true)), (.mv (.tmp 0))⟩, ⟨(some 7), (some (5, true)), (.bin .lss (.tmp 6) (.const (.int .i64 (12))))⟩, ⟨(some 8), none, (.pick (.tmp 5) (.tmp 7) (.const (.bool false)))⟩, ⟨(some 2), none, (.mv (.tmp 8))⟩]) .ret))
theorem cc54 : ccode Tryd.prog [] (Tryd.f54.body.getD .skip) = some c54 := by kernel_rfl
theorem body54 : Tryd.f54.body = some (Tryd.f54.body.getD .skip) := rfl

theorem item_C (k : Int) : PureC Tryd.prog 54 [aI k] (.ret (aB (itemK k))) := by
  unfold itemK
  by_cases h1 : 0 ≤ k
  · by_cases h2 : k < 12
    · rw [decide_eq_true h1, decide_eq_true h2]
      refine pureC_of (rs := [(RV.tmp 2)]) Tryd.func54 (fun a w => Tryd.call54 a w) body54 cc54 (by kernel_rfl) ?_
      rw [Tryd.ntmps54]
      simp only [frs, Nat.reduceAdd, Nat.reduceSub]
      repeat (first | (with_reducible first | refine Way.imp ?_ | refine blk_o rfl ?_) | ((with_reducible refine WayR.imp (fun K hK => ?_)); simp (disch := first | omega | (simp only [dls]; omega)) only [std, reduceIte, reduceCtorEq, Int.reduceToNat, Nat.reduceAdd, Nat.reduceSub, Nat.reduceMul, Int.reduceAdd, Int.reduceSub, Int.reduceMul, Int.reduceNeg, fU]; subst hK))
      exact ⟨_, rfl, rfl⟩
    · rw [decide_eq_true h1, decide_eq_false h2]
      refine pureC_of (rs := [(RV.tmp 2)]) Tryd.func54 (fun a w => Tryd.call54 a w) body54 cc54 (by kernel_rfl) ?_
      rw [Tryd.ntmps54]
      simp only [frs, Nat.reduceAdd, Nat.reduceSub]
      repeat (first | (with_reducible first | refine Way.imp ?_ | refine blk_o rfl ?_) | ((with_reducible refine WayR.imp (fun K hK => ?_)); simp (disch := first | omega | (simp only [dls]; omega)) only [std, reduceIte, reduceCtorEq, Int.reduceToNat, Nat.reduceAdd, Nat.reduceSub, Nat.reduceMul, Int.reduceAdd, Int.reduceSub, Int.reduceMul, Int.reduceNeg, fU]; subst hK))
      exact ⟨_, rfl, rfl⟩
  · rw [decide_eq_false h1, Bool.false_and]
    refine pureC_of (rs := [(RV.tmp 2)]) Tryd.func54 (fun a w => Tryd.call54 a w) body54 cc54 (by kernel_rfl) ?_
    rw [Tryd.ntmps54]
    simp only [frs, Nat.reduceAdd, Nat.reduceSub]
    repeat (first | (with_reducible first | refine Way.imp ?_ | refine blk_o rfl ?_) | ((with_reducible refine WayR.imp (fun K hK => ?_)); simp (disch := first | omega | (simp only [dls]; omega)) only [std, reduceIte, reduceCtorEq, Int.reduceToNat, Nat.reduceAdd, Nat.reduceSub, Nat.reduceMul, Int.reduceAdd, Int.reduceSub, Int.reduceMul, Int.reduceNeg, fU]; subst hK))
    exact ⟨_, rfl, rfl⟩

/-- A mix whose sets are not below 0, and whose numbers are not too long. -/
structure DomP (l : PL) (N L : Nat) : Prop where
  len : (osl l).length ≤ N
  set : ∀ p ∈ osl l, 0 ≤ p.set ∧ p.set ≤ 9223372036854775807
  fit : ∀ p ∈ osl l, Fits p.v L
def vAt (l : PL) (i : Nat) : Rat := (ptAt l i).v.val
def sAt (l : PL) (i : Nat) : Nat := (ptAt l i).set.toNat
theorem DomP.at {l : PL} {N L : Nat} (h : DomP l N L) {i : Nat} (hi : i < (osl l).length) : (osl l)[i].set = ((sAt l i : Nat) : Int) ∧ sAt l i ≤ 9223372036854775807 ∧ Fits (osl l)[i].v L ∧ (osl l)[i].v.val = vAt l i := by
  have h1 := h.set _ (List.getElem_mem hi)
  have h2 := h.fit _ (List.getElem_mem hi)
  unfold sAt vAt
  rw [ptAt_in hi]
  exact ⟨by omega, by omega, h2, rfl⟩
def hasB (l : PL) (a b i : Nat) : Bool := bitN (sAt l i) a && bitN (sAt l i) b
def togTo (l : PL) (a b : Nat) : Nat → Rat
  | 0 => 0
  | i + 1 => if hasB l a b i then togTo l a b i + vAt l i else togTo l a b i
def togQ (l : PL) (a b : Int) : Rat := if itemK a && itemK b then togTo l a.toNat b.toNat (osl l).length else 0
theorem fits_tog {l : PL} {N L : Nat} (h : DomP l N L) (hL : 1 ≤ L) (a b : Nat) : ∀ i, i ≤ (osl l).length → FitsQ (togTo l a b i) (i * (L + 1) + 1)
  | 0, _ => fitsQ_zero _ (by omega)
  | i + 1, hi => by
    obtain ⟨_, _, h3, h4⟩ := h.at (i := i) (by omega)
    have ih := fits_tog h hL a b i (by omega)
    show FitsQ (if hasB l a b i then togTo l a b i + vAt l i else togTo l a b i) _
    split
    · rw [← h4]
      exact (ih.add1 (h3.val hL)).mono (by rw [Nat.add_mul i 1]; omega)
    · exact ih.mono (by rw [Nat.add_mul i 1]; omega)

theorem bitN_tst (n k : Nat) : bitN n k = n.testBit k := Nat.testBit_eq_decide_div_mod_eq.symm
theorem both_bits (s a b : Nat) : (s &&& (2 ^ a ||| 2 ^ b) = 2 ^ a ||| 2 ^ b) ↔ (bitN s a = true ∧ bitN s b = true) := by
  rw [bitN_tst, bitN_tst]
  constructor
  · intro h
    have ha := congrArg (fun n => n.testBit a) h
    have hb := congrArg (fun n => n.testBit b) h
    simp only [Nat.testBit_and, Nat.testBit_or, Nat.testBit_two_pow_self, Bool.true_or, Bool.or_true, Bool.and_true] at ha hb
    exact ⟨ha, hb⟩
  · rintro ⟨ha, hb⟩
    apply Nat.eq_of_testBit_eq
    intro i
    simp only [Nat.testBit_and, Nat.testBit_or, Nat.testBit_two_pow]
    by_cases h1 : a = i
    · subst h1; rw [ha]; simp
    · by_cases h2 : b = i
      · subst h2; rw [hb]; simp
      · simp [h1, h2]
theorem bv_nat (x : Nat) (h : x < 18446744073709551616) : (BitVec.ofInt IntKind.i64.bits ((x : Nat) : Int)).toNat = x := by
  rw [BitVec.toNat_ofInt]
  show (((x : Nat) : Int) % ((2 ^ 64 : Nat) : Int)).toNat = x
  omega
theorem andI_nat (x y : Nat) (hx : x ≤ 9223372036854775807) (hy : y ≤ 9223372036854775807) : andI .i64 ((x : Nat) : Int) ((y : Nat) : Int) = ((x &&& y : Nat) : Int) := by
  have hle : x &&& y ≤ x := Nat.and_le_left
  unfold andI
  rw [BitVec.toNat_and, bv_nat x (by omega), bv_nat y (by omega)]
  exact wi64 (by omega) (by omega)
theorem orI_nat (x y : Nat) (hx : x < 2 ^ 62) (hy : y < 2 ^ 62) : orI .i64 ((x : Nat) : Int) ((y : Nat) : Int) = ((x ||| y : Nat) : Int) := by
  have hlt : x ||| y < 2 ^ 62 := Nat.or_lt_two_pow hx hy
  have e : (2 : Nat) ^ 62 = 4611686018427387904 := by decide
  rw [e] at hx hy hlt
  unfold orI
  rw [BitVec.toNat_or, bv_nat x (by omega), bv_nat y (by omega)]
  exact wi64 (by omega) (by omega)

abbrev c24_k1 : CC := (.seq (.reg [⟨(some 43), none, (.load 3 true (.tmp 7))⟩, ⟨none, none, (.store 3 (.tmp 6) (.tmp 43))⟩]) .ret)
abbrev c24_b1 : CC := (.seq (.reg [⟨(some 29), none, (.bin .lss (.tmp 28) (.tmp 27))⟩]) (.seq (.cond (.tmp 29) .skip (.exit 0)) (.seq (.block 1 (.seq (.reg [⟨(some 30), none, (.iaddr 4 none (.tmp 26) (.tmp 28))⟩, ⟨(some 31), none, (.load 4 true (.tmp 30))⟩, ⟨(some 10), none, (.new 50 [(.int .i64 (0)), (.bool false), (.slice none 0 0), (.slice none 0 0)])⟩, ⟨none, none, (.store 4 (.tmp 10) (.tmp 31))⟩]) (.seq (.reg [⟨(some 32), none, (.faddr 0 (.tmp 10))⟩, ⟨(some 33), none, (.load 1 false (.tmp 32))⟩, ⟨(some 34), none, (.mv (.tmp 8))⟩, ⟨(some 35), none, (.bin .and (.tmp 33) (.tmp 34))⟩, ⟨(some 36), none, (.mv (.tmp 8))⟩, ⟨(some 37), none, (.bin .eql (.tmp 35) (.tmp 36))⟩]) (.cond (.tmp 37) (.reg [⟨(some 38), none, (.load 3 true (.tmp 7))⟩, ⟨(some 39), none, (.faddr 1 (.tmp 10))⟩, ⟨(some 40), none, (.load 3 true (.tmp 39))⟩, ⟨(some 41), none, (.callf (.func 27) [(.tmp 38), (.tmp 40)])⟩, ⟨none, none, (.store 3 (.tmp 7) (.tmp 41))⟩]) .skip)))) (.reg [⟨(some 42), none, (.bin .add (.tmp 28) (.const (.int .i64 (1))))⟩, ⟨(some 28), none, (.mv (.tmp 42))⟩]))))
abbrev c24 : CC := (.seq (.reg [⟨(some 6), none, (.new 45 [(.bool false), (.slice none 0 0), (.slice none 0 0)])⟩]) (.seq (.reg [⟨(some 11), none, (.callf (.func 26) [(.const (.int .i64 (0)))])⟩, ⟨(some 7), none, (.new 45 [(.bool false), (.slice none 0 0), (.slice none 0 0)])⟩, ⟨none, none, (.store 3 (.tmp 7) (.tmp 11))⟩]) (.seq (.seq (.reg [⟨(some 12), none, (.mv (.tmp 1))⟩, ⟨(some 13), none, (.callf (.func 54) [(.tmp 12)])⟩, ⟨(some 14), none, (.un .not (.tmp 13))⟩, ⟨(some 15), none, (.mv (.tmp 14))⟩, ⟨(some 16), (some (15, false)), (.mv (.tmp 2))⟩, ⟨(some 17), (some (15, false)), (.callf (.func 54) [(.tmp 16)])⟩, ⟨(some 18), (some (15, false)), (.un .not (.tmp 17))⟩, ⟨(some 19), none, (.pick (.tmp 15) (.const (.bool true)) (.tmp 18))⟩]) (.cond (.tmp 19) (.seq (.reg [⟨(some 20), none, (.load 3 true (.tmp 7))⟩, ⟨none, none, (.store 3 (.tmp 6) (.tmp 20))⟩]) .ret) .skip)) (.seq (.reg [⟨(some 21), none, (.mv (.tmp 1))⟩, ⟨(some 22), none, (.bin .shl (.const (.int .i64 (1))) (.tmp 21))⟩, ⟨(some 23), none, (.mv (.tmp 2))⟩, ⟨(some 24), none, (.bin .shl (.const (.int .i64 (1))) (.tmp 23))⟩, ⟨(some 25), none, (.bin .or (.tmp 22) (.tmp 24))⟩, ⟨(some 8), none, (.mv (.tmp 25))⟩]) (.seq (.seq (.reg [⟨(some 26), none, (.mv (.tmp 0))⟩, ⟨(some 27), none, (.len false (.tmp 26))⟩, ⟨(some 28), none, (.mv (.const (.int .i64 (0))))⟩]) (.block 0 (.loop c24_b1))) c24_k1)))))
theorem cc24 : ccode Tryd.prog [] (Tryd.f24.body.getD .skip) = some c24 := by kernel_rfl
theorem body24 : Tryd.f24.body = some (Tryd.f24.body.getD .skip) := rfl

theorem ptog_C (l : PL) (a b : Int) (N L : Nat) (hd : DomP l N L) (hN : N ≤ 1000) (hL : 1 ≤ L) (hL2 : L ≤ 1000) : PureC Tryd.prog 24 [aPl l, aI a, aI b] (.ret (aR (rawQ (togQ l a b)))) := by
  have h0 := rint_C 0 (by omega) (by omega)
  rw [show ((0 : Int) : Rat) = 0 from rfl] at h0
  have hia := item_C a
  have hib := item_C b
  unfold togQ
  cases ca : itemK a with
  | false =>
    rw [ca] at hia
    rw [if_neg (by simp)]
    refine pureC_of (rs := [(RV.cell 6 3 true)]) Tryd.func24 (fun a w => Tryd.call24 a w) body24 cc24 (by kernel_rfl) ?_
    rw [Tryd.ntmps24]
    simp only [frs, Nat.reduceAdd, Nat.reduceSub]
    repeat (first | (with_reducible first | refine Way.imp ?_ | refine blk_o rfl ?_) | ((with_reducible refine WayR.imp (fun K hK => ?_)); simp (disch := first | omega | (simp only [dls]; omega)) only [std, reduceIte, reduceCtorEq, Int.reduceToNat, Nat.reduceAdd, Nat.reduceSub, Nat.reduceMul, Int.reduceAdd, Int.reduceSub, Int.reduceMul, Int.reduceNeg, fU]; subst hK) | refine zcA (h0) rfl rfl rfl ?_ | refine zcA (hia) rfl rfl rfl ?_ | (apply call_any_g (hib) rfl; (case hg => simp (disch := first | omega | (simp only [dls]; omega)) only [std, reduceIte, reduceCtorEq, Int.reduceToNat, Nat.reduceAdd, Nat.reduceSub, Nat.reduceMul, Int.reduceAdd, Int.reduceSub, Int.reduceMul, Int.reduceNeg, fU]); (case hcl => (simp only [evs, St.ev, constAV, evl]; (repeat (first | exact closeAVs_nil | (apply closeAVs_cons; (first | (refine close_own3 rfl (by decide)) | (refine close_ownO rfl (by decide) ?_; assumption) | rfl)))); done)); (case hu => rfl)))
    exact ⟨_, rfl, rfl⟩
  | true =>
  rw [ca] at hia
  cases cb : itemK b with
  | false =>
    rw [cb] at hib
    rw [if_neg (by simp)]
    refine pureC_of (rs := [(RV.cell 6 3 true)]) Tryd.func24 (fun a w => Tryd.call24 a w) body24 cc24 (by kernel_rfl) ?_
    rw [Tryd.ntmps24]
    simp only [frs, Nat.reduceAdd, Nat.reduceSub]
    repeat (first | (with_reducible first | refine Way.imp ?_ | refine blk_o rfl ?_) | ((with_reducible refine WayR.imp (fun K hK => ?_)); simp (disch := first | omega | (simp only [dls]; omega)) only [std, reduceIte, reduceCtorEq, Int.reduceToNat, Nat.reduceAdd, Nat.reduceSub, Nat.reduceMul, Int.reduceAdd, Int.reduceSub, Int.reduceMul, Int.reduceNeg, fU]; subst hK) | refine zcA (h0) rfl rfl rfl ?_ | refine zcA (hia) rfl rfl rfl ?_ | (apply call_any_g (hib) rfl; (case hg => simp (disch := first | omega | (simp only [dls]; omega)) only [std, reduceIte, reduceCtorEq, Int.reduceToNat, Nat.reduceAdd, Nat.reduceSub, Nat.reduceMul, Int.reduceAdd, Int.reduceSub, Int.reduceMul, Int.reduceNeg, fU]); (case hcl => (simp only [evs, St.ev, constAV, evl]; (repeat (first | exact closeAVs_nil | (apply closeAVs_cons; (first | (refine close_own3 rfl (by decide)) | (refine close_ownO rfl (by decide) ?_; assumption) | rfl)))); done)); (case hu => rfl)))
    exact ⟨_, rfl, rfl⟩
  | true =>
  rw [cb] at hib
  rw [if_pos (show (true && true) = true from rfl)]
  unfold itemK at ca cb
  simp only [Bool.and_eq_true, decide_eq_true_eq] at ca cb
  obtain ⟨x, rfl⟩ : ∃ x : Nat, a = (x : Int) := ⟨a.toNat, by omega⟩
  obtain ⟨y, rfl⟩ : ∃ y : Nat, b = (y : Int) := ⟨b.toNat, by omega⟩
  rw [Int.toNat_natCast, Int.toNat_natCast]
  have sx := shl_one x (by omega)
  have sy := shl_one y (by omega)
  have px : 2 ^ x ≤ 4096 := pow_4096 (by omega)
  have py : 2 ^ y ≤ 4096 := pow_4096 (by omega)
  have e62 : (2 : Nat) ^ 62 = 4611686018427387904 := by decide
  have hor := orI_nat (2 ^ x) (2 ^ y) (by omega) (by omega)
  have horl : 2 ^ x ||| 2 ^ y < 2 ^ 62 := Nat.or_lt_two_pow (by omega) (by omega)
  rw [e62] at horl
  have hbb := fun s => both_bits s x y
  have hz : togTo l x y 0 = 0 := rfl
  have hlen := hd.len
  generalize hB : (2 ^ x ||| 2 ^ y : Nat) = B at *
  generalize 2 ^ x = X at *
  generalize 2 ^ y = Y at *
  refine pureC_of (rs := [(RV.cell 6 3 true)]) Tryd.func24 (fun a w => Tryd.call24 a w) body24 cc24 (by kernel_rfl) ?_
  rw [Tryd.ntmps24]
  simp only [frs, Nat.reduceAdd, Nat.reduceSub]
  repeat (first | (with_reducible first | refine Way.imp ?_ | refine blk_o rfl ?_) | ((with_reducible refine WayR.imp (fun K hK => ?_)); simp (disch := first | omega | (simp only [dls]; omega)) only [std, reduceIte, reduceCtorEq, Int.reduceToNat, Nat.reduceAdd, Nat.reduceSub, Nat.reduceMul, Int.reduceAdd, Int.reduceSub, Int.reduceMul, Int.reduceNeg, fU, Int.toNat_natCast, sx, sy, hor]; subst hK) | refine zcA (h0) rfl rfl rfl ?_ | refine zcA (hia) rfl rfl rfl ?_ | (apply call_any_g (hib) rfl; (case hg => simp (disch := first | omega | (simp only [dls]; omega)) only [std, reduceIte, reduceCtorEq, Int.reduceToNat, Nat.reduceAdd, Nat.reduceSub, Nat.reduceMul, Int.reduceAdd, Int.reduceSub, Int.reduceMul, Int.reduceNeg, fU, Int.toNat_natCast, sx, sy, hor]); (case hcl => (simp only [evs, St.ev, constAV, evl]; (repeat (first | exact closeAVs_nil | (apply closeAVs_cons; (first | (refine close_own3 rfl (by decide)) | (refine close_ownO rfl (by decide) ?_; assumption) | rfl)))); done)); (case hu => rfl)))
  refine awp_loop (fun (zz : Nat) => ⟨(.junk :: .junk :: .junk :: .junk :: .junk :: .junk :: .one (.ptr 0 0 0 0) :: .one (.ptr 1 0 0 0) :: aI B :: .junk :: .junk :: .junk :: .junk :: .junk :: .junk :: .junk :: .junk :: .junk :: .junk :: .junk :: .junk :: .junk :: .junk :: .junk :: .junk :: .junk :: aPl l :: aI (osl l).length :: aI zz :: .junk :: .junk :: .junk :: .junk :: .junk :: .junk :: .junk :: .junk :: .junk :: .junk :: .junk :: .junk :: .junk :: .junk :: .junk :: []), [⟨0, 45, 3, [[.c (.val (.bool false)), .c (.val (.slice none 0 0)), .c (.val (.slice none 0 0))]], true, true⟩, ⟨0, 45, 3, [[.c (.val (.bool (rawQ (togTo l x y zz)).minus)), .c (nr (rawQ (togTo l x y zz)).size), .c (nr (rawQ (togTo l x y zz)).den)]], true, true⟩]⟩) (fun (zz : Nat) => zz ≤ (osl l).length) (fun (zz : Nat) => (osl l).length - zz) (0) ?hI1 (Fgt.head (Nat.zero_le 2) [false, false, false, false, false, false, true, true, true, false, false, false, false, false, false, false, false, false, false, false, false, false, false, false, false, false, true, true, true] ?hT1 ?hH1) ?hB1
  case hT1 => first | (simp (disch := omega) only [hds, liveT, cleanAV, cleanCell, clean1, cleanBlk, reduceIte, Int.reduceSub, Int.reduceAdd, Int.reduceNeg, hz]; done) | rfl
  case hH1 => first | (simp (disch := omega) only [hds, liveT, cleanAV, cleanCell, clean1, cleanBlk, reduceIte, Int.reduceSub, Int.reduceAdd, Int.reduceNeg, hz]; done) | rfl
  · exact Nat.zero_le _
  rintro i hi
  by_cases hie : i = (osl l).length
  · rw [← hie]
    repeat (first | (with_reducible first | refine Way.imp ?_ | refine blk_o rfl ?_) | ((with_reducible refine WayR.imp (fun K hK => ?_)); simp (disch := first | omega | (simp only [dls]; omega)) only [std, reduceIte, reduceCtorEq, Int.reduceToNat, Nat.reduceAdd, Nat.reduceSub, Nat.reduceMul, Int.reduceAdd, Int.reduceSub, Int.reduceMul, Int.reduceNeg, fU]; subst hK))
    exact ⟨_, rfl, rfl⟩
  · have hlt : i < (osl l).length := by omega
    obtain ⟨a1, a2, a3, a4⟩ := hd.at hlt
    have hft := fits_tog hd hL x y i hi
    have hiL : i * (L + 1) ≤ 1000 * 1001 := Nat.mul_le_mul (by omega) (by omega)
    have hadd := radd_C (rawQ (togTo l x y i)) (osl l)[i].v (fits_rawQ (hft.mono (by omega))) (a3.mono (by omega))
    rw [rawQ_val, a4] at hadd
    have han := andI_nat (sAt l i) B a2 (by omega)
    have hstep : togTo l x y (i + 1) = if hasB l x y i then togTo l x y i + vAt l i else togTo l x y i := rfl
    have hbi := hbb (sAt l i)
    unfold hasB at hstep
    generalize togTo l x y i = s at *
    by_cases hh : sAt l i &&& B = B
    · obtain ⟨b1, b2⟩ := hbi.1 hh
      rw [b1, b2, if_pos (show (true && true) = true from rfl)] at hstep
      rw [hh] at han
      repeat (first | (with_reducible first | refine Way.imp ?_ | refine blk_o rfl ?_) | ((with_reducible refine WayR.imp (fun K hK => ?_)); simp (disch := first | omega | (simp only [dls]; omega)) only [std, reduceIte, reduceCtorEq, Int.reduceToNat, Nat.reduceAdd, Nat.reduceSub, Nat.reduceMul, Int.reduceAdd, Int.reduceSub, Int.reduceMul, Int.reduceNeg, fU, fPt, a1, han]; subst hK) | refine zcA (hadd) rfl rfl rfl ?_)
      refine ⟨(i + 1), ?hI2, ?hM2, Fgt.head (Nat.zero_le 2) [false, false, false, false, false, false, true, true, true, false, false, false, false, false, false, false, false, false, false, false, false, false, false, false, false, false, true, true, true] ?hT2 ?hH2⟩
      case hT2 => first | (simp (disch := omega) only [hds, liveT, cleanAV, cleanCell, clean1, cleanBlk, reduceIte, Int.reduceSub, Int.reduceAdd, Int.reduceNeg, hstep]; done) | rfl
      case hH2 => first | (simp (disch := omega) only [hds, liveT, cleanAV, cleanCell, clean1, cleanBlk, reduceIte, Int.reduceSub, Int.reduceAdd, Int.reduceNeg, hstep]; done) | rfl
      · exact hlt
      · show (osl l).length - (i + 1) < (osl l).length - i; omega
    · have hno : ¬ (bitN (sAt l i) x && bitN (sAt l i) y) = true := fun h => hh (hbi.2 (by simpa using h))
      rw [if_neg hno] at hstep
      generalize sAt l i &&& B = z at *
      repeat (first | (with_reducible first | refine Way.imp ?_ | refine blk_o rfl ?_) | ((with_reducible refine WayR.imp (fun K hK => ?_)); simp (disch := first | omega | (simp only [dls]; omega)) only [std, reduceIte, reduceCtorEq, Int.reduceToNat, Nat.reduceAdd, Nat.reduceSub, Nat.reduceMul, Int.reduceAdd, Int.reduceSub, Int.reduceMul, Int.reduceNeg, fU, fPt, a1, han]; subst hK) | refine zcA (hadd) rfl rfl rfl ?_)
      refine ⟨(i + 1), ?hI3, ?hM3, Fgt.head (Nat.zero_le 2) [false, false, false, false, false, false, true, true, true, false, false, false, false, false, false, false, false, false, false, false, false, false, false, false, false, false, true, true, true] ?hT3 ?hH3⟩
      case hT3 => first | (simp (disch := omega) only [hds, liveT, cleanAV, cleanCell, clean1, cleanBlk, reduceIte, Int.reduceSub, Int.reduceAdd, Int.reduceNeg, hstep]; done) | rfl
      case hH3 => first | (simp (disch := omega) only [hds, liveT, cleanAV, cleanCell, clean1, cleanBlk, reduceIte, Int.reduceSub, Int.reduceAdd, Int.reduceNeg, hstep]; done) | rfl
      · exact hlt
      · show (osl l).length - (i + 1) < (osl l).length - i; omega

end Go.Proofs.YtdhkdnmefeeclaaDoor
set_option linter.unusedSimpArgs false
set_option linter.unusedVariables false
set_option maxRecDepth 100000
set_option maxHeartbeats 4000000
namespace Go.Proofs.YtdhkdnmefeeclaaDoor
open Go Go.Am Go.Proofs Go.RowKit Go.Off

theorem cmpQ_eq (a b : Rat) : cmpQ a b = 0 ↔ a = b := by
  unfold cmpQ
  by_cases h1 : a < b
  · have : a ≠ b := fun e => Rat.lt_irrefl (e ▸ h1)
    rw [if_pos h1]; simp [this]
  · by_cases h2 : b < a
    · have : a ≠ b := fun e => Rat.lt_irrefl (e ▸ h2)
      rw [if_neg h1, if_pos h2]; simp [this]
    · have : a = b := Rat.le_antisymm (Rat.not_lt.1 h2) (Rat.not_lt.1 h1)
      rw [if_neg h1, if_neg h2]; simp [this]
theorem sgn_zero_val (r : RR) : sgn r.top = 0 ↔ r.val = 0 := by rw [sgn_zero_iff, top_zero]
def unitP (l : PL) (i : Nat) : Bool := decide (vAt l i = 0) || decide (vAt l i = 1)
def wholeP (l : PL) : Bool := allK (unitP l) (osl l).length

abbrev c21_k1 : CC := (.seq (.reg [⟨(some 2), none, (.mv (.const (.bool true)))⟩]) .ret)
abbrev c21_b1 : CC := (.seq (.reg [⟨(some 8), none, (.bin .lss (.tmp 7) (.tmp 6))⟩]) (.seq (.cond (.tmp 8) .skip (.exit 0)) (.seq (.block 1 (.seq (.reg [⟨(some 9), none, (.iaddr 4 none (.tmp 5) (.tmp 7))⟩, ⟨(some 10), none, (.load 4 true (.tmp 9))⟩, ⟨(some 4), none, (.new 50 [(.int .i64 (0)), (.bool false), (.slice none 0 0), (.slice none 0 0)])⟩, ⟨none, none, (.store 4 (.tmp 4) (.tmp 10))⟩]) (.seq (.reg [⟨(some 11), none, (.faddr 1 (.tmp 4))⟩, ⟨(some 12), none, (.load 3 true (.tmp 11))⟩, ⟨(some 13), none, (.callf (.func 49) [(.tmp 12)])⟩, ⟨(some 14), none, (.bin .neq (.tmp 13) (.const (.int .i64 (0))))⟩, ⟨(some 15), none, (.mv (.tmp 14))⟩, ⟨(some 16), (some (15, true)), (.faddr 1 (.tmp 4))⟩, ⟨(some 17), (some (15, true)), (.load 3 true (.tmp 16))⟩, ⟨(some 18), (some (15, true)), (.callf (.func 26) [(.const (.int .i64 (1)))])⟩, ⟨(some 19), (some (15, true)), (.callf (.func 25) [(.tmp 17), (.tmp 18)])⟩, ⟨(some 20), (some (15, true)), (.bin .neq (.tmp 19) (.const (.int .i64 (0))))⟩, ⟨(some 21), none, (.pick (.tmp 15) (.tmp 20) (.const (.bool false)))⟩]) (.cond (.tmp 21) (.seq (.reg [⟨(some 2), none, (.mv (.const (.bool false)))⟩]) .ret) .skip)))) (.reg [⟨(some 22), none, (.bin .add (.tmp 7) (.const (.int .i64 (1))))⟩, ⟨(some 7), none, (.mv (.tmp 22))⟩]))))
abbrev c21 : CC := (.seq (.reg [⟨(some 2), none, (.mv (.const (.bool false)))⟩]) (.seq (.seq (.reg [⟨(some 5), none, (.mv (.tmp 0))⟩, ⟨(some 6), none, (.len false (.tmp 5))⟩, ⟨(some 7), none, (.mv (.const (.int .i64 (0))))⟩]) (.block 0 (.loop c21_b1))) c21_k1))
theorem cc21 : ccode Tryd.prog [] (Tryd.f21.body.getD .skip) = some c21 := by kernel_rfl
theorem body21 : Tryd.f21.body = some (Tryd.f21.body.getD .skip) := rfl

theorem pwhole_C (l : PL) (N L : Nat) (hd : DomP l N L) (hN : N ≤ 1000) (hL : 1 ≤ L) (hL2 : L ≤ 1000) : PureC Tryd.prog 21 [aPl l] (.ret (aB (wholeP l))) := by
  have h1 := rint_C 1 (by omega) (by omega)
  rw [show ((1 : Int) : Rat) = 1 from rfl] at h1
  have hlen := hd.len
  have hf1 : Fits (rawQ 1) 2 := fits_rawQ (fits_int 1 (by decide) (by decide))
  unfold wholeP
  refine pureC_of (rs := [(RV.tmp 2)]) Tryd.func21 (fun a w => Tryd.call21 a w) body21 cc21 (by kernel_rfl) ?_
  rw [Tryd.ntmps21]
  simp only [frs, Nat.reduceAdd, Nat.reduceSub]
  repeat (first | (with_reducible first | refine Way.imp ?_ | refine blk_o rfl ?_) | ((with_reducible refine WayR.imp (fun K hK => ?_)); simp (disch := first | omega | (simp only [dls]; omega)) only [std, reduceIte, reduceCtorEq, Int.reduceToNat, Nat.reduceAdd, Nat.reduceSub, Nat.reduceMul, Int.reduceAdd, Int.reduceSub, Int.reduceMul, Int.reduceNeg, fU]; subst hK))
  refine awp_loop (fun (zz : Nat) => ⟨(.junk :: .junk :: .junk :: .junk :: .junk :: aPl l :: aI (osl l).length :: aI zz :: .junk :: .junk :: .junk :: .junk :: .junk :: .junk :: .junk :: .junk :: .junk :: .junk :: .junk :: .junk :: .junk :: .junk :: .junk :: []), []⟩) (fun (zz : Nat) => zz ≤ (osl l).length ∧ allK (unitP l) zz = true) (fun (zz : Nat) => (osl l).length - zz) (0) ?hI1 (Fgt.head (Nat.le_refl _) [false, false, false, false, false, true, true, true] ?hT1 ?hH1) ?hB1
  case hT1 => first | (simp (disch := omega) only [hds, liveT, cleanAV, cleanCell, clean1, cleanBlk, reduceIte, Int.reduceSub, Int.reduceAdd, Int.reduceNeg]; done) | rfl
  case hH1 => first | (simp (disch := omega) only [hds, liveT, cleanAV, cleanCell, clean1, cleanBlk, reduceIte, Int.reduceSub, Int.reduceAdd, Int.reduceNeg]; done) | rfl
  · exact ⟨Nat.zero_le _, rfl⟩
  rintro i ⟨hi, hall⟩
  by_cases hie : i = (osl l).length
  · rw [← hie, hall]
    repeat (first | (with_reducible first | refine Way.imp ?_ | refine blk_o rfl ?_) | ((with_reducible refine WayR.imp (fun K hK => ?_)); simp (disch := first | omega | (simp only [dls]; omega)) only [std, reduceIte, reduceCtorEq, Int.reduceToNat, Nat.reduceAdd, Nat.reduceSub, Nat.reduceMul, Int.reduceAdd, Int.reduceSub, Int.reduceMul, Int.reduceNeg, fU]; subst hK))
    exact ⟨_, rfl, rfl⟩
  · have hlt : i < (osl l).length := by omega
    obtain ⟨a1, a2, a3, a4⟩ := hd.at hlt
    have hs := rsign_C (osl l)[i].v (a3.mono (by omega))
    have hc := rcompare_C (osl l)[i].v (rawQ 1) (a3.mono (by omega)) (hf1.mono (by omega))
    have e1 := sgn_zero_val (osl l)[i].v
    have e2 := cmpQ_eq (osl l)[i].v.val (rawQ 1).val
    rw [rawQ_val, a4] at e2 hc
    rw [a4] at e1
    have hstep := allK_succ (unitP l) i
    rw [hall, Bool.true_and] at hstep
    generalize cmpQ (vAt l i) 1 = c at *
    generalize sgn (osl l)[i].v.top = g at *
    by_cases hz : g = 0
    · have hu : unitP l i = true := by unfold unitP; rw [decide_eq_true (e1.1 hz)]; rfl
      repeat (first | (with_reducible first | refine Way.imp ?_ | refine blk_o rfl ?_) | ((with_reducible refine WayR.imp (fun K hK => ?_)); simp (disch := first | omega | (simp only [dls]; omega)) only [std, reduceIte, reduceCtorEq, Int.reduceToNat, Nat.reduceAdd, Nat.reduceSub, Nat.reduceMul, Int.reduceAdd, Int.reduceSub, Int.reduceMul, Int.reduceNeg, fU, fPt]; subst hK) | refine zcA (hs) rfl rfl rfl ?_ | (apply call_any_g (h1) rfl; (case hg => simp (disch := first | omega | (simp only [dls]; omega)) only [std, reduceIte, reduceCtorEq, Int.reduceToNat, Nat.reduceAdd, Nat.reduceSub, Nat.reduceMul, Int.reduceAdd, Int.reduceSub, Int.reduceMul, Int.reduceNeg, fU, fPt]); (case hcl => (simp only [evs, St.ev, constAV, evl]; (repeat (first | exact closeAVs_nil | (apply closeAVs_cons; (first | (refine close_own3 rfl (by decide)) | (refine close_ownO rfl (by decide) ?_; assumption) | rfl)))); done)); (case hu => rfl)) | (apply call_any_g (hc) rfl; (case hg => simp (disch := first | omega | (simp only [dls]; omega)) only [std, reduceIte, reduceCtorEq, Int.reduceToNat, Nat.reduceAdd, Nat.reduceSub, Nat.reduceMul, Int.reduceAdd, Int.reduceSub, Int.reduceMul, Int.reduceNeg, fU, fPt]); (case hcl => (simp only [evs, St.ev, constAV, evl]; (repeat (first | exact closeAVs_nil | (apply closeAVs_cons; (first | (refine close_own3 rfl (by decide)) | (refine close_ownO rfl (by decide) ?_; assumption) | rfl)))); done)); (case hu => rfl)))
      refine ⟨(i + 1), ?hI2, ?hM2, Fgt.head (Nat.le_refl _) [false, false, false, false, false, true, true, true] ?hT2 ?hH2⟩
      case hT2 => first | (simp (disch := omega) only [hds, liveT, cleanAV, cleanCell, clean1, cleanBlk, reduceIte, Int.reduceSub, Int.reduceAdd, Int.reduceNeg]; done) | rfl
      case hH2 => first | (simp (disch := omega) only [hds, liveT, cleanAV, cleanCell, clean1, cleanBlk, reduceIte, Int.reduceSub, Int.reduceAdd, Int.reduceNeg]; done) | rfl
      · exact ⟨hlt, by rw [hstep, hu]⟩
      · show (osl l).length - (i + 1) < (osl l).length - i; omega
    · by_cases hz2 : c = 0
      · have hu : unitP l i = true := by unfold unitP; rw [decide_eq_true (e2.1 hz2), Bool.or_true]
        repeat (first | (with_reducible first | refine Way.imp ?_ | refine blk_o rfl ?_) | ((with_reducible refine WayR.imp (fun K hK => ?_)); simp (disch := first | omega | (simp only [dls]; omega)) only [std, reduceIte, reduceCtorEq, Int.reduceToNat, Nat.reduceAdd, Nat.reduceSub, Nat.reduceMul, Int.reduceAdd, Int.reduceSub, Int.reduceMul, Int.reduceNeg, fU, fPt]; subst hK) | refine zcA (hs) rfl rfl rfl ?_ | (apply call_any_g (h1) rfl; (case hg => simp (disch := first | omega | (simp only [dls]; omega)) only [std, reduceIte, reduceCtorEq, Int.reduceToNat, Nat.reduceAdd, Nat.reduceSub, Nat.reduceMul, Int.reduceAdd, Int.reduceSub, Int.reduceMul, Int.reduceNeg, fU, fPt]); (case hcl => (simp only [evs, St.ev, constAV, evl]; (repeat (first | exact closeAVs_nil | (apply closeAVs_cons; (first | (refine close_own3 rfl (by decide)) | (refine close_ownO rfl (by decide) ?_; assumption) | rfl)))); done)); (case hu => rfl)) | (apply call_any_g (hc) rfl; (case hg => simp (disch := first | omega | (simp only [dls]; omega)) only [std, reduceIte, reduceCtorEq, Int.reduceToNat, Nat.reduceAdd, Nat.reduceSub, Nat.reduceMul, Int.reduceAdd, Int.reduceSub, Int.reduceMul, Int.reduceNeg, fU, fPt]); (case hcl => (simp only [evs, St.ev, constAV, evl]; (repeat (first | exact closeAVs_nil | (apply closeAVs_cons; (first | (refine close_own3 rfl (by decide)) | (refine close_ownO rfl (by decide) ?_; assumption) | rfl)))); done)); (case hu => rfl)))
        refine ⟨(i + 1), ?hI3, ?hM3, Fgt.head (Nat.le_refl _) [false, false, false, false, false, true, true, true] ?hT3 ?hH3⟩
        case hT3 => first | (simp (disch := omega) only [hds, liveT, cleanAV, cleanCell, clean1, cleanBlk, reduceIte, Int.reduceSub, Int.reduceAdd, Int.reduceNeg]; done) | rfl
        case hH3 => first | (simp (disch := omega) only [hds, liveT, cleanAV, cleanCell, clean1, cleanBlk, reduceIte, Int.reduceSub, Int.reduceAdd, Int.reduceNeg]; done) | rfl
        · exact ⟨hlt, by rw [hstep, hu]⟩
        · show (osl l).length - (i + 1) < (osl l).length - i; omega
      · have hu : unitP l i = false := by unfold unitP; rw [decide_eq_false (fun h => hz (e1.2 h)), decide_eq_false (fun h => hz2 (e2.2 h))]; rfl
        rw [allK_false hlt hu]
        repeat (first | (with_reducible first | refine Way.imp ?_ | refine blk_o rfl ?_) | ((with_reducible refine WayR.imp (fun K hK => ?_)); simp (disch := first | omega | (simp only [dls]; omega)) only [std, reduceIte, reduceCtorEq, Int.reduceToNat, Nat.reduceAdd, Nat.reduceSub, Nat.reduceMul, Int.reduceAdd, Int.reduceSub, Int.reduceMul, Int.reduceNeg, fU, fPt]; subst hK) | refine zcA (hs) rfl rfl rfl ?_ | (apply call_any_g (h1) rfl; (case hg => simp (disch := first | omega | (simp only [dls]; omega)) only [std, reduceIte, reduceCtorEq, Int.reduceToNat, Nat.reduceAdd, Nat.reduceSub, Nat.reduceMul, Int.reduceAdd, Int.reduceSub, Int.reduceMul, Int.reduceNeg, fU, fPt]); (case hcl => (simp only [evs, St.ev, constAV, evl]; (repeat (first | exact closeAVs_nil | (apply closeAVs_cons; (first | (refine close_own3 rfl (by decide)) | (refine close_ownO rfl (by decide) ?_; assumption) | rfl)))); done)); (case hu => rfl)) | (apply call_any_g (hc) rfl; (case hg => simp (disch := first | omega | (simp only [dls]; omega)) only [std, reduceIte, reduceCtorEq, Int.reduceToNat, Nat.reduceAdd, Nat.reduceSub, Nat.reduceMul, Int.reduceAdd, Int.reduceSub, Int.reduceMul, Int.reduceNeg, fU, fPt]); (case hcl => (simp only [evs, St.ev, constAV, evl]; (repeat (first | exact closeAVs_nil | (apply closeAVs_cons; (first | (refine close_own3 rfl (by decide)) | (refine close_ownO rfl (by decide) ?_; assumption) | rfl)))); done)); (case hu => rfl)))
        exact ⟨_, rfl, rfl⟩

/-- The sets of what is not 0, in order. -/
def setsL (l : PL) (n : Nat) : List Int := ((List.range n).filter (fun i => !decide (vAt l i = 0))).map (fun i => ((sAt l i : Nat) : Int))
theorem setsL_succ (l : PL) (n : Nat) : setsL l (n + 1) = if vAt l n = 0 then setsL l n else setsL l n ++ [((sAt l n : Nat) : Int)] := by
  unfold setsL
  rw [List.range_succ, List.filter_append, List.map_append]
  by_cases h : vAt l n = 0 <;> simp [h]
theorem setsL_len (l : PL) (n : Nat) : (setsL l n).length ≤ n := by
  unfold setsL
  rw [List.length_map]
  have := List.length_filter_le (fun i => !decide (vAt l i = 0)) (List.range n)
  rwa [List.length_range] at this

abbrev c20_k1 : CC := (.seq (.reg [⟨(some 22), none, (.mv (.tmp 3))⟩, ⟨(some 2), none, (.mv (.tmp 22))⟩]) .ret)
abbrev c20_b1 : CC := (.seq (.reg [⟨(some 9), none, (.bin .lss (.tmp 8) (.tmp 7))⟩]) (.seq (.cond (.tmp 9) .skip (.exit 0)) (.seq (.block 1 (.seq (.reg [⟨(some 10), none, (.iaddr 4 none (.tmp 6) (.tmp 8))⟩, ⟨(some 11), none, (.load 4 true (.tmp 10))⟩, ⟨(some 5), none, (.new 50 [(.int .i64 (0)), (.bool false), (.slice none 0 0), (.slice none 0 0)])⟩, ⟨none, none, (.store 4 (.tmp 5) (.tmp 11))⟩]) (.seq (.reg [⟨(some 12), none, (.faddr 1 (.tmp 5))⟩, ⟨(some 13), none, (.load 3 true (.tmp 12))⟩, ⟨(some 14), none, (.callf (.func 49) [(.tmp 13)])⟩, ⟨(some 15), none, (.bin .neq (.tmp 14) (.const (.int .i64 (0))))⟩]) (.cond (.tmp 15) (.reg [⟨(some 16), none, (.mv (.tmp 3))⟩, ⟨(some 17), none, (.faddr 0 (.tmp 5))⟩, ⟨(some 18), none, (.load 1 false (.tmp 17))⟩, ⟨(some 19), none, (.mkrow 3 1 [(.tmp 18)])⟩, ⟨(some 20), none, (.append 3 1 8 (.tmp 16) (.tmp 19))⟩, ⟨(some 3), none, (.mv (.tmp 20))⟩]) .skip)))) (.reg [⟨(some 21), none, (.bin .add (.tmp 8) (.const (.int .i64 (1))))⟩, ⟨(some 8), none, (.mv (.tmp 21))⟩]))))
abbrev c20 : CC := (.seq (.reg [⟨(some 2), none, (.mv (.const (.slice none 0 0)))⟩]) (.seq (.reg [⟨(some 3), none, (.mv (.const (.slice none 0 0)))⟩]) (.seq (.seq (.reg [⟨(some 6), none, (.mv (.tmp 0))⟩, ⟨(some 7), none, (.len false (.tmp 6))⟩, ⟨(some 8), none, (.mv (.const (.int .i64 (0))))⟩]) (.block 0 (.loop c20_b1))) c20_k1)))
theorem cc20 : ccode Tryd.prog [] (Tryd.f20.body.getD .skip) = some c20 := by kernel_rfl
theorem body20 : Tryd.f20.body = some (Tryd.f20.body.getD .skip) := rfl

theorem psets_C (l : PL) (N L : Nat) (hd : DomP l N L) (hN : N ≤ 1000) (hL : 1 ≤ L) (hL2 : L ≤ 1000) : PureC Tryd.prog 20 [aPl l] (.ret (aWs (rowO (setsL l (osl l).length)))) := by
  have hlen := hd.len
  have hz : setsL l 0 = [] := rfl
  refine PureC.fresh_rowO (ty := 3) (e := 1) ?_
  refine pureC_of (rs := [(RV.tmp 2)]) Tryd.func20 (fun a w => Tryd.call20 a w) body20 cc20 (by kernel_rfl) ?_
  rw [Tryd.ntmps20]
  simp only [frs, Nat.reduceAdd, Nat.reduceSub]
  repeat (first | (with_reducible first | refine Way.imp ?_ | refine blk_o rfl ?_) | ((with_reducible refine WayR.imp (fun K hK => ?_)); simp (disch := first | omega | (simp only [dls]; omega)) only [std, reduceIte, reduceCtorEq, Int.reduceToNat, Nat.reduceAdd, Nat.reduceSub, Nat.reduceMul, Int.reduceAdd, Int.reduceSub, Int.reduceMul, Int.reduceNeg, fU]; subst hK))
  refine AWp.fgt ?_ (Fgt.openNil (i := 3) rfl 3 1)
  simp only [List.set_cons_succ, List.set_cons_zero, List.length_nil, List.length_cons, List.nil_append, List.cons_append, Nat.reduceAdd]
  refine awp_loop (fun (zz : Nat × (List Int) × Nat × Bool) => ⟨(.junk :: .junk :: .junk :: .one (.own 0 zz.2.2.1) :: .junk :: .junk :: aPl l :: aI (osl l).length :: aI zz.1 :: .junk :: .junk :: .junk :: .junk :: .junk :: .junk :: .junk :: .junk :: .junk :: .junk :: .junk :: .junk :: .junk :: .junk :: []), [⟨zz.2.2.1, 3, 1, encB fI zz.2.1, true, zz.2.2.2⟩]⟩) (fun (zz : Nat × (List Int) × Nat × Bool) => zz.1 ≤ (osl l).length ∧ zz.2.1 = setsL l zz.1 ∧ zz.2.2.2 = !zz.2.1.isEmpty) (fun (zz : Nat × (List Int) × Nat × Bool) => (osl l).length - zz.1) (0, [], 0, false) ?hI4 (Fgt.head (Nat.zero_le 1) [false, false, false, true, false, false, true, true, true] ?hT4 ?hH4) ?hB4
  case hT4 => first | (simp (disch := omega) only [hds, liveT, cleanAV, cleanCell, clean1, cleanBlk, reduceIte, Int.reduceSub, Int.reduceAdd, Int.reduceNeg, encB_nil]; done) | rfl
  case hH4 => first | (simp (disch := omega) only [hds, liveT, cleanAV, cleanCell, clean1, cleanBlk, reduceIte, Int.reduceSub, Int.reduceAdd, Int.reduceNeg, encB_nil]; done) | rfl
  · dsimp only; exact ⟨Nat.zero_le _, rfl, rfl⟩
  rintro ⟨i, out, v, nn⟩ ⟨hi, ho, hnn⟩
  dsimp only at hi ho hnn
  by_cases hie : i = (osl l).length
  · repeat (first | (with_reducible first | refine Way.imp ?_ | refine blk_o rfl ?_) | ((with_reducible refine WayR.imp (fun K hK => ?_)); simp (disch := first | omega | (simp only [dls]; omega)) only [std, reduceIte, reduceCtorEq, Int.reduceToNat, Nat.reduceAdd, Nat.reduceSub, Nat.reduceMul, Int.reduceAdd, Int.reduceSub, Int.reduceMul, Int.reduceNeg, fU]; subst hK))
    refine ⟨_, rfl, ?_⟩
    rw [hnn, ho, hie]
    exact Ends.fresh_enc rfl
  · have hlt : i < (osl l).length := by omega
    obtain ⟨a1, a2, a3, a4⟩ := hd.at hlt
    have hs := rsign_C (osl l)[i].v (a3.mono (by omega))
    have e1 := sgn_zero_val (osl l)[i].v
    rw [a4] at e1
    have hsu := setsL_succ l i
    have hol : out.length ≤ 1000 := by rw [ho]; have := setsL_len l i; omega
    have eA : encB fI out ++ [[Cell.c (.val (.int .i64 ((sAt l i : Nat) : Int)))]] = encB fI (out ++ [((sAt l i : Nat) : Int)]) := by rw [← encB_append]; rfl
    generalize sgn (osl l)[i].v.top = g at *
    by_cases hz : g = 0
    · rw [if_pos (e1.1 hz)] at hsu
      repeat (first | (with_reducible first | refine Way.imp ?_ | refine blk_o rfl ?_) | ((with_reducible refine WayR.imp (fun K hK => ?_)); simp (disch := first | omega | (simp only [dls]; omega)) only [std, reduceIte, reduceCtorEq, Int.reduceToNat, Nat.reduceAdd, Nat.reduceSub, Nat.reduceMul, Int.reduceAdd, Int.reduceSub, Int.reduceMul, Int.reduceNeg, fU, fPt]; subst hK) | refine zcA (hs) rfl rfl rfl ?_)
      refine ⟨(i + 1, out, v, nn), ?hI5, ?hM5, Fgt.head (Nat.zero_le 1) [false, false, false, true, false, false, true, true, true] ?hT5 ?hH5⟩
      case hT5 => first | (simp (disch := omega) only [hds, liveT, cleanAV, cleanCell, clean1, cleanBlk, reduceIte, Int.reduceSub, Int.reduceAdd, Int.reduceNeg]; done) | rfl
      case hH5 => first | (simp (disch := omega) only [hds, liveT, cleanAV, cleanCell, clean1, cleanBlk, reduceIte, Int.reduceSub, Int.reduceAdd, Int.reduceNeg]; done) | rfl
      · dsimp only; exact ⟨hlt, by rw [hsu]; exact ho, hnn⟩
      · dsimp only; omega
    · rw [if_neg (fun h => hz (e1.2 h))] at hsu
      repeat (first | (with_reducible first | refine Way.imp ?_ | refine blk_o rfl ?_) | ((with_reducible refine WayR.imp (fun K hK => ?_)); simp (disch := first | omega | (simp only [dls]; omega)) only [std, reduceIte, reduceCtorEq, Int.reduceToNat, Nat.reduceAdd, Nat.reduceSub, Nat.reduceMul, Int.reduceAdd, Int.reduceSub, Int.reduceMul, Int.reduceNeg, fU, fPt, a1]; subst hK) | refine zcA (hs) rfl rfl rfl ?_)
      refine ⟨(i + 1, out ++ [((sAt l i : Nat) : Int)], v + 1, true), ?hI6, ?hM6, Fgt.head (Nat.zero_le 1) [false, false, false, true, false, false, true, true, true] ?hT6 ?hH6⟩
      case hT6 => first | (simp (disch := omega) only [hds, liveT, cleanAV, cleanCell, clean1, cleanBlk, reduceIte, Int.reduceSub, Int.reduceAdd, Int.reduceNeg, eA, List.isEmpty_cons, Bool.or_true, Bool.not_false]; done) | rfl
      case hH6 => first | (simp (disch := omega) only [hds, liveT, cleanAV, cleanCell, clean1, cleanBlk, reduceIte, Int.reduceSub, Int.reduceAdd, Int.reduceNeg, eA, List.isEmpty_cons, Bool.or_true, Bool.not_false]; done) | rfl
      · dsimp only; exact ⟨hlt, by rw [hsu, ho], by cases out <;> rfl⟩
      · dsimp only; omega

end Go.Proofs.YtdhkdnmefeeclaaDoor
