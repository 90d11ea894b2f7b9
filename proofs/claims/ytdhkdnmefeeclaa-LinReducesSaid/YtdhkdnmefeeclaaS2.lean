/- The law LinSpans: the walk. -/
import Derived.Test.YtdhkdnmefeeclaaA5
import Derived.Test.YtdhkdnmefeeclaaM3
set_option linter.unusedSimpArgs false
set_option linter.unusedVariables false
set_option linter.unnecessarySimpa false
set_option linter.unusedSimpArgs false
set_option linter.unusedVariables false
set_option maxRecDepth 100000
set_option maxHeartbeats 4000000
namespace Go.Proofs.Ytdhkdnmefeeclaa
open Go Go.Am Go.Proofs Go.RowKit Go.Off

theorem repJ (n : Nat) : List.replicate n [Cell.c (.val (.int .i64 0))] = encB fI (List.replicate n 0) := by rw [encB_replicate]; rfl
theorem len_ints (P : List Nat) : (osl (rowO (intsN P))).length = P.length := by rw [osl_rowO, intsN_length]
theorem get_ints (P : List Nat) (t : Nat) (h : t < (osl (rowO (intsN P))).length) : (osl (rowO (intsN P)))[t] = ((P.getD t 0 : Nat) : Int) := by
  have h' : t < P.length := by rw [len_ints] at h; exact h
  rw [List.getElem_of_eq (osl_rowO (intsN P)) h]
  unfold intsN
  rw [List.getElem_map, List.getD_eq_getElem?_getD, List.getElem?_eq_getElem h']
  rfl
/-- Four rows of three words: how long the reduced form's numbers are. -/
theorem pow4_le {N : Nat} (h : N ≤ 4) : 4 ^ N ≤ 256 := Nat.pow_le_pow_right (by decide : 0 < 4) h
theorem red_few {m : MM} (h1 : fewM m = true) (h2 : rectTo m (osl m).length = true) : Wf (redTo (qM m) (cols m)).1 (osl m).length (cols m) 1023 := by
  have hf := fewM_fits h1
  have hw := red_fits (wf_qM hf (ok_of hf (by decide) h2) (by decide)) (by decide) (cols m) (Nat.le_refl _)
  refine hw.2.1.mono ?_
  have h3 := pow4_le (Nat.le_trans hw.1 (fewM_len h1))
  omega
theorem reduce_few {m : MM} (h1 : fewM m = true) (h2 : rectTo m (osl m).length = true) : PureC Try.prog 56 [aM m] (.ret (.tup [aM (rawM (redTo (qM m) (cols m)).1), aIs (rowO (intsN (redTo (qM m) (cols m)).2))])) := by
  have hf := fewM_fits h1
  have h3 := pow4_le (fewM_len h1)
  exact reduce_C m 8 3 hf (by decide) (by decide) (ok_of hf (by decide) h2) (by omega)

/-- The sum of so many rows of the reduced form. -/
def partL (R : QM) (P : List Nat) (v : VV) (W t : Nat) : List Rat := (List.range W).map fun c => sumR t (fun i => eQ R i c * qAt v (P.getD i 0))
theorem partL_len (R : QM) (P : List Nat) (v : VV) (W t : Nat) : (partL R P v W t).length = W := by unfold partL; rw [List.length_map, List.length_range]
theorem partL_get (R : QM) (P : List Nat) (v : VV) {W t c : Nat} (h : c < W) : (partL R P v W t).getD c 0 = sumR t (fun i => eQ R i c * qAt v (P.getD i 0)) := by
  unfold partL
  rw [List.getD_eq_getElem?_getD, List.getElem?_map, List.getElem?_range h]
  rfl
theorem partL_zero (R : QM) (P : List Nat) (v : VV) (W : Nat) : (List.replicate W (0 : Int)).map (fun n : Int => rawQ (n : Rat)) = (partL R P v W 0).map rawQ := by
  apply List.ext_getElem
  · rw [List.length_map, List.length_map, List.length_replicate, partL_len]
  · intro i h1 h2
    rw [List.getElem_map, List.getElem_map, List.getElem_replicate]
    unfold partL
    rw [List.getElem_map]
    rfl
theorem partL_succ (R : QM) (P : List Nat) (v : VV) (W t : Nat) (hR : (R.getD t []).length = W) :
    addQ (rowO ((partL R P v W t).map rawQ)) (rowO ((scaleQ (rawV (R.getD t [])) (qAt v (P.getD t 0))).map rawQ)) = partL R P v W (t + 1) := by
  have hl : (scaleQ (rawV (R.getD t [])) (qAt v (P.getD t 0))).length = W := by unfold scaleQ; rw [List.length_map, osl_rawV, List.length_map, hR]
  unfold addQ
  rw [len_rw, len_rw, partL_len, hl, Nat.max_self]
  conv => rhs; unfold partL
  refine List.map_congr_left (fun c hc => ?_)
  rw [List.mem_range] at hc
  rw [qAt_rw, qAt_rw, partL_get R P v hc]
  conv => rhs; unfold sumR
  congr 1
  unfold scaleQ eQ
  dsimp only
  rw [osl_rawV, List.map_map, List.getD_eq_getElem?_getD (l := List.map _ _), List.getElem?_map, List.getD_eq_getElem?_getD (l := R.getD t []), List.getElem?_eq_getElem (by rw [hR]; exact hc)]
  show (rawQ (R.getD t [])[c]).val * _ = _
  rw [rawQ_val]
  rfl
theorem partL_fits {R : QM} {P : List Nat} {v : VV} {n W : Nat} (hR : Wf R n W 1023) (hv : FitsV v 8 3) (t : Nat) (ht : t ≤ n) : ∀ q ∈ partL R P v W t, FitsQ q (2048 * 2 ^ t - 1) := by
  intro q hq
  unfold partL at hq
  obtain ⟨c, hc, rfl⟩ := List.mem_map.1 hq
  rw [List.mem_range] at hc
  induction t with
  | zero => exact (fitsQ_zero 1 (by decide)).mono (by decide)
  | succ t ih =>
    have h1 := ih (by omega) (List.mem_map.2 ⟨c, List.mem_range.2 hc, rfl⟩)
    have h2 := (hR.at (show t < n by omega) hc).mul ((hv.at (P.getD t 0)).val (by decide))
    have h3 : 1 ≤ 2 ^ t := Nat.pow_pos (by decide)
    unfold sumR
    refine (h1.add1 h2).mono ?_
    rw [Nat.pow_succ]
    omega

abbrev c9_k1 : CC := (.seq (.reg [⟨(some 86), none, (.callf (.func 55) [])⟩, ⟨(some 2), none, (.mv (.tmp 86))⟩]) .ret)
abbrev c9_k2 : CC := (.reg [⟨(some 85), none, (.bin .add (.tmp 46) (.const (.int .i64 (1))))⟩, ⟨(some 46), none, (.mv (.tmp 85))⟩])
abbrev c9_k3 : CC := (.seq (.reg [⟨(some 81), none, (.mv (.tmp 10))⟩, ⟨(some 82), none, (.mv (.tmp 9))⟩, ⟨(some 83), none, (.callf (.func 51) [(.tmp 81), (.tmp 82)])⟩, ⟨(some 84), none, (.un .not (.tmp 83))⟩]) (.cond (.tmp 84) (.seq (.reg [⟨(some 2), none, (.mv (.const (.bool false)))⟩]) .ret) .skip))
abbrev c9_b1 : CC := (.seq (.reg [⟨(some 57), none, (.bin .lss (.tmp 56) (.tmp 55))⟩]) (.seq (.cond (.tmp 57) .skip (.exit 2)) (.seq (.block 3 (.seq (.reg [⟨(some 58), none, (.mv (.tmp 56))⟩, ⟨(some 59), none, (.iaddr 1 none (.tmp 54) (.tmp 56))⟩, ⟨(some 60), none, (.load 1 false (.tmp 59))⟩, ⟨(some 11), none, (.mv (.tmp 58))⟩, ⟨(some 12), none, (.mv (.tmp 60))⟩]) (.seq (.seq (.reg [⟨(some 61), none, (.mv (.tmp 12))⟩, ⟨(some 62), none, (.bin .lss (.tmp 61) (.const (.int .i64 (0))))⟩, ⟨(some 63), none, (.mv (.tmp 62))⟩, ⟨(some 64), (some (63, false)), (.mv (.tmp 12))⟩, ⟨(some 65), (some (63, false)), (.mv (.tmp 9))⟩, ⟨(some 66), (some (63, false)), (.len false (.tmp 65))⟩, ⟨(some 67), (some (63, false)), (.bin .geq (.tmp 64) (.tmp 66))⟩, ⟨(some 68), none, (.pick (.tmp 63) (.const (.bool true)) (.tmp 67))⟩]) (.cond (.tmp 68) (.seq (.reg [⟨(some 2), none, (.mv (.const (.bool false)))⟩]) .ret) .skip)) (.reg [⟨(some 69), none, (.mv (.tmp 10))⟩, ⟨(some 70), none, (.mv (.tmp 6))⟩, ⟨(some 71), none, (.mv (.tmp 11))⟩, ⟨(some 72), none, (.iaddr 1 none (.tmp 70) (.tmp 71))⟩, ⟨(some 73), none, (.load 1 false (.tmp 72))⟩, ⟨(some 74), none, (.mv (.tmp 9))⟩, ⟨(some 75), none, (.mv (.tmp 12))⟩, ⟨(some 76), none, (.iaddr 3 none (.tmp 74) (.tmp 75))⟩, ⟨(some 77), none, (.load 3 true (.tmp 76))⟩, ⟨(some 78), none, (.callf (.func 45) [(.tmp 73), (.tmp 77)])⟩, ⟨(some 79), none, (.callf (.func 43) [(.tmp 69), (.tmp 78)])⟩, ⟨(some 10), none, (.mv (.tmp 79))⟩])))) (.reg [⟨(some 80), none, (.bin .add (.tmp 56) (.const (.int .i64 (1))))⟩, ⟨(some 56), none, (.mv (.tmp 80))⟩]))))
abbrev c9_b2 : CC := (.seq (.reg [⟨(some 47), none, (.bin .lss (.tmp 46) (.tmp 45))⟩]) (.seq (.cond (.tmp 47) .skip (.exit 0)) (.seq (.block 1 (.seq (.reg [⟨(some 48), none, (.iaddr 1 none (.tmp 44) (.tmp 46))⟩, ⟨(some 49), none, (.load 1 false (.tmp 48))⟩, ⟨(some 9), none, (.mv (.tmp 49))⟩]) (.seq (.reg [⟨(some 50), none, (.mv (.tmp 4))⟩, ⟨(some 51), none, (.mm false (.tmp 50) (.const (.int .i64 (8))))⟩, ⟨(some 52), none, (.make 3 1 8 [(.int .i64 (0))] (.tmp 51) (.tmp 51))⟩, ⟨(some 53), none, (.callf (.func 57) [(.tmp 52)])⟩, ⟨(some 10), none, (.mv (.tmp 53))⟩]) (.seq (.seq (.reg [⟨(some 54), none, (.mv (.tmp 7))⟩, ⟨(some 55), none, (.len false (.tmp 54))⟩, ⟨(some 56), none, (.mv (.const (.int .i64 (0))))⟩]) (.block 2 (.loop c9_b1))) c9_k3)))) c9_k2)))
abbrev c9 : CC := (.seq (.reg [⟨(some 2), none, (.mv (.const (.bool false)))⟩]) (.seq (.reg [⟨(some 14), none, (.mv (.tmp 0))⟩, ⟨(some 15), none, (.callf (.func 53) [(.tmp 14)])⟩, ⟨(some 13), none, (.mv (.tmp 15))⟩, ⟨(some 16), none, (.ext (.tmp 13) 0)⟩, ⟨(some 17), none, (.ext (.tmp 13) 1)⟩, ⟨(some 18), none, (.ext (.tmp 13) 2)⟩, ⟨(some 3), none, (.mv (.tmp 16))⟩, ⟨(some 4), none, (.mv (.tmp 17))⟩, ⟨(some 5), none, (.mv (.tmp 18))⟩]) (.seq (.seq (.reg [⟨(some 19), none, (.mv (.tmp 0))⟩, ⟨(some 20), none, (.callf (.func 54) [(.tmp 19)])⟩, ⟨(some 21), none, (.un .not (.tmp 20))⟩, ⟨(some 22), none, (.mv (.tmp 21))⟩, ⟨(some 23), (some (22, false)), (.mv (.tmp 5))⟩, ⟨(some 24), (some (22, false)), (.un .not (.tmp 23))⟩, ⟨(some 25), none, (.pick (.tmp 22) (.const (.bool true)) (.tmp 24))⟩]) (.cond (.tmp 25) (.seq (.reg [⟨(some 26), none, (.callf (.func 55) [])⟩, ⟨(some 2), none, (.mv (.tmp 26))⟩]) .ret) .skip)) (.seq (.reg [⟨(some 28), none, (.mv (.tmp 0))⟩, ⟨(some 29), none, (.callf (.func 56) [(.tmp 28)])⟩, ⟨(some 27), none, (.mv (.tmp 29))⟩, ⟨(some 30), none, (.ext (.tmp 27) 0)⟩, ⟨(some 31), none, (.ext (.tmp 27) 1)⟩, ⟨(some 6), none, (.mv (.tmp 30))⟩, ⟨(some 7), none, (.mv (.tmp 31))⟩]) (.seq (.seq (.reg [⟨(some 32), none, (.mv (.tmp 6))⟩, ⟨(some 33), none, (.len false (.tmp 32))⟩, ⟨(some 34), none, (.mv (.tmp 0))⟩, ⟨(some 35), none, (.len false (.tmp 34))⟩, ⟨(some 36), none, (.bin .neq (.tmp 33) (.tmp 35))⟩, ⟨(some 37), none, (.mv (.tmp 36))⟩, ⟨(some 38), (some (37, false)), (.mv (.tmp 7))⟩, ⟨(some 39), (some (37, false)), (.len false (.tmp 38))⟩, ⟨(some 40), (some (37, false)), (.mv (.tmp 6))⟩, ⟨(some 41), (some (37, false)), (.len false (.tmp 40))⟩, ⟨(some 42), (some (37, false)), (.bin .gtr (.tmp 39) (.tmp 41))⟩, ⟨(some 43), none, (.pick (.tmp 37) (.const (.bool true)) (.tmp 42))⟩]) (.cond (.tmp 43) (.seq (.reg [⟨(some 2), none, (.mv (.const (.bool false)))⟩]) .ret) .skip)) (.seq (.seq (.reg [⟨(some 44), none, (.mv (.tmp 0))⟩, ⟨(some 45), none, (.len false (.tmp 44))⟩, ⟨(some 46), none, (.mv (.const (.int .i64 (0))))⟩]) (.block 0 (.loop c9_b2))) c9_k1))))))
theorem cc9 : ccode Try.prog [] (Try.f9.body.getD .skip) = some c9 := by kernel_rfl
theorem body9 : Try.f9.body = some (Try.f9.body.getD .skip) := rfl

theorem linSpans_C (m : MM) (hl : (osl m).length ≤ 9223372036854775807) : PureC Try.prog 9 [aM m] (.ret (aB true)) := by
  have hs := lsides_C m hl
  have hf := lfew_C m
  have haw := awake6_C
  unfold lsidesV at hs
  by_cases c1 : fewM m = true
  case neg =>
    rw [show fewM m = false by simpa using c1] at hf
    by_cases c2 : rectTo m (osl m).length = true
    · rw [if_pos c2] at hs
      generalize cols m = W at *
      refine pureC_of (rs := [(RV.tmp 2)]) Try.func9 (fun a w => Try.call9 a w) body9 cc9 (by kernel_rfl) ?_
      rw [Try.ntmps9]
      simp only [frs, Nat.reduceAdd, Nat.reduceSub]
      repeat (first | (with_reducible first | refine Way.imp ?_ | refine blk_o rfl ?_) | ((with_reducible refine WayR.imp (fun K hK => ?_)); simp (disch := first | omega | (simp only [dls]; omega)) only [std, reduceIte, reduceCtorEq, Int.reduceToNat, Nat.reduceAdd, Nat.reduceSub, Nat.reduceMul, Int.reduceAdd, Int.reduceSub, Int.reduceMul, Int.reduceNeg, fU]; subst hK) | refine zcA (hs) rfl rfl rfl ?_ | refine zcA (hf) rfl rfl rfl ?_ | refine zcA (haw) rfl rfl rfl ?_)
      exact ⟨_, rfl, rfl⟩
    · rw [if_neg c2] at hs
      refine pureC_of (rs := [(RV.tmp 2)]) Try.func9 (fun a w => Try.call9 a w) body9 cc9 (by kernel_rfl) ?_
      rw [Try.ntmps9]
      simp only [frs, Nat.reduceAdd, Nat.reduceSub]
      repeat (first | (with_reducible first | refine Way.imp ?_ | refine blk_o rfl ?_) | ((with_reducible refine WayR.imp (fun K hK => ?_)); simp (disch := first | omega | (simp only [dls]; omega)) only [std, reduceIte, reduceCtorEq, Int.reduceToNat, Nat.reduceAdd, Nat.reduceSub, Nat.reduceMul, Int.reduceAdd, Int.reduceSub, Int.reduceMul, Int.reduceNeg, fU]; subst hK) | refine zcA (hs) rfl rfl rfl ?_ | refine zcA (hf) rfl rfl rfl ?_ | refine zcA (haw) rfl rfl rfl ?_)
      exact ⟨_, rfl, rfl⟩
  rw [c1] at hf
  by_cases c2 : rectTo m (osl m).length = true
  case neg =>
    rw [if_neg c2] at hs
    refine pureC_of (rs := [(RV.tmp 2)]) Try.func9 (fun a w => Try.call9 a w) body9 cc9 (by kernel_rfl) ?_
    rw [Try.ntmps9]
    simp only [frs, Nat.reduceAdd, Nat.reduceSub]
    repeat (first | (with_reducible first | refine Way.imp ?_ | refine blk_o rfl ?_) | ((with_reducible refine WayR.imp (fun K hK => ?_)); simp (disch := first | omega | (simp only [dls]; omega)) only [std, reduceIte, reduceCtorEq, Int.reduceToNat, Nat.reduceAdd, Nat.reduceSub, Nat.reduceMul, Int.reduceAdd, Int.reduceSub, Int.reduceMul, Int.reduceNeg, fU]; subst hK) | refine zcA (hs) rfl rfl rfl ?_ | refine zcA (hf) rfl rfl rfl ?_ | refine zcA (haw) rfl rfl rfl ?_)
    exact ⟨_, rfl, rfl⟩
  rw [if_pos c2] at hs
  have hmf := fewM_fits c1
  have hm1 := fewM_len c1
  have hW8 := cols_le hmf
  have hred := reduce_few c1 c2
  have hwf := red_few c1 c2
  have hinv := red_inv (shp_qM c2) (cols m) (Nat.le_refl _)
  have hsp : ∀ j c, j < (osl m).length → c < cols m → qAt (mAt m j) c = sumR (redTo (qM m) (cols m)).2.length (fun i => eQ (redTo (qM m) (cols m)).1 i c * qAt (mAt m j) ((redTo (qM m) (cols m)).2.getD i 0)) := fun j c hj hc => by
    have := red_spans (shp_qM c2) j c hj hc
    simp only [eQ_qM] at this
    exact this
  have hrl : ∀ i (h : i < (osl m).length), (osl (osl m)[i]).length = cols m := fun i h => by rw [← mAt_in h]; exact row_len c2 h
  generalize redTo (qM m) (cols m) = S at *
  generalize cols m = W at *
  obtain ⟨R, P⟩ := S
  dsimp only at hred hwf hinv hsp
  have hPN := hinv.le
  have hRl : (osl (rawM R)).length = (osl m).length := by rw [len_rawM, hwf.1]
  have hPl := len_ints P
  have hPe := get_ints P
  have hPW : ∀ t, t < P.length → P.getD t 0 < W := hinv.lt
  generalize hPs : rowO (intsN P) = Ps at *
  refine pureC_of (rs := [(RV.tmp 2)]) Try.func9 (fun a w => Try.call9 a w) body9 cc9 (by kernel_rfl) ?_
  rw [Try.ntmps9]
  simp only [frs, Nat.reduceAdd, Nat.reduceSub]
  repeat (first | (with_reducible first | refine Way.imp ?_ | refine blk_o rfl ?_) | ((with_reducible refine WayR.imp (fun K hK => ?_)); simp (disch := first | omega | (simp only [dls]; omega)) only [std, reduceIte, reduceCtorEq, Int.reduceToNat, Nat.reduceAdd, Nat.reduceSub, Nat.reduceMul, Int.reduceAdd, Int.reduceSub, Int.reduceMul, Int.reduceNeg, fU, hPl, hRl]; subst hK) | refine zcA (hs) rfl rfl rfl ?_ | refine zcA (hf) rfl rfl rfl ?_ | refine zcA (hred) rfl rfl rfl ?_)
  refine awp_loop (fun (zz : Nat) => ⟨(aM m :: .junk :: .junk :: .junk :: aI W :: .junk :: aM (rawM R) :: aIs Ps :: .junk :: .junk :: .junk :: .junk :: .junk :: .junk :: .junk :: .junk :: .junk :: .junk :: .junk :: .junk :: .junk :: .junk :: .junk :: .junk :: .junk :: .junk :: .junk :: .junk :: .junk :: .junk :: .junk :: .junk :: .junk :: .junk :: .junk :: .junk :: .junk :: .junk :: .junk :: .junk :: .junk :: .junk :: .junk :: .junk :: aM m :: aI (osl m).length :: aI zz :: .junk :: .junk :: .junk :: .junk :: .junk :: .junk :: .junk :: .junk :: .junk :: .junk :: .junk :: .junk :: .junk :: .junk :: .junk :: .junk :: .junk :: .junk :: .junk :: .junk :: .junk :: .junk :: .junk :: .junk :: .junk :: .junk :: .junk :: .junk :: .junk :: .junk :: .junk :: .junk :: .junk :: .junk :: .junk :: .junk :: .junk :: .junk :: .junk :: .junk :: []), []⟩) (fun (zz : Nat) => zz ≤ (osl m).length) (fun (zz : Nat) => (osl m).length - zz) (0) ?hI1 (Fgt.head (Nat.le_refl _) (true :: false :: false :: false :: true :: false :: true :: true :: false :: false :: false :: false :: false :: false :: false :: false :: false :: false :: false :: false :: false :: false :: false :: false :: false :: false :: false :: false :: false :: false :: false :: false :: false :: false :: false :: false :: false :: false :: false :: false :: false :: false :: false :: false :: true :: true :: true :: []) ?hT1 ?hH1) ?hB1
  case hT1 => first | (simp (disch := omega) only [hds, liveT, cleanAV, cleanCell, clean1, cleanBlk, reduceIte, Int.reduceSub, Int.reduceAdd, Int.reduceNeg]; done) | rfl
  case hH1 => first | (simp (disch := omega) only [hds, liveT, cleanAV, cleanCell, clean1, cleanBlk, reduceIte, Int.reduceSub, Int.reduceAdd, Int.reduceNeg]; done) | rfl
  · exact Nat.zero_le _
  rintro i hi
  by_cases him : i = (osl m).length
  · repeat (first | (with_reducible first | refine Way.imp ?_ | refine blk_o rfl ?_) | ((with_reducible refine WayR.imp (fun K hK => ?_)); simp (disch := first | omega | (simp only [dls]; omega)) only [std, reduceIte, reduceCtorEq, Int.reduceToNat, Nat.reduceAdd, Nat.reduceSub, Nat.reduceMul, Int.reduceAdd, Int.reduceSub, Int.reduceMul, Int.reduceNeg, fU]; subst hK) | refine zcA (haw) rfl rfl rfl ?_)
    exact ⟨_, rfl, rfl⟩
  have hlt : i < (osl m).length := by omega
  have hints := ints_R (List.replicate W 0) (by rw [List.length_replicate]; omega) (fun n hn => by rw [(List.mem_replicate.1 hn).2]; decide)
  rw [partL_zero R P (osl m)[i]] at hints
  repeat (first | (with_reducible first | refine Way.imp ?_ | refine blk_o rfl ?_) | ((with_reducible refine WayR.imp (fun K hK => ?_)); simp (disch := first | omega | (simp only [dls]; omega)) only [std, reduceIte, reduceCtorEq, Int.reduceToNat, Nat.reduceAdd, Nat.reduceSub, Nat.reduceMul, Int.reduceAdd, Int.reduceSub, Int.reduceMul, Int.reduceNeg, fU, fM, repJ, hPl]; subst hK) | (apply call_ret_w1 (hints) rfl; (case hcl => (simp only [evs, St.ev, constAV, evl]; (repeat (first | exact closeAVs_nil | (apply closeAVs_cons; (first | (refine close_own3 rfl (by decide)) | (refine close_ownO rfl (by decide) ?_; assumption) | rfl)))); done)); (case hu => (simp only [evs, St.ev, constAV, evl]; (repeat (first | exact used_nil | (apply used_cons; (first | (apply used_own3; rfl) | rfl)))); done)); (case hh => ((simp only [fzl, Nat.reduceBEq, Nat.reduceAdd, Bool.false_eq_true, if_true, if_false, reduceIte]) <;> rfl)); intro bb))
  refine awp_loop (fun (zz : Nat) => ⟨(aM m :: .junk :: .junk :: .junk :: aI W :: .junk :: aM (rawM R) :: aIs Ps :: .junk :: aV (osl m)[i] :: aV (rowO ((partL R P (osl m)[i] W zz).map rawQ)) :: .junk :: .junk :: .junk :: .junk :: .junk :: .junk :: .junk :: .junk :: .junk :: .junk :: .junk :: .junk :: .junk :: .junk :: .junk :: .junk :: .junk :: .junk :: .junk :: .junk :: .junk :: .junk :: .junk :: .junk :: .junk :: .junk :: .junk :: .junk :: .junk :: .junk :: .junk :: .junk :: .junk :: aM m :: aI (osl m).length :: aI i :: .junk :: .junk :: .junk :: .junk :: .junk :: .junk :: .junk :: aIs Ps :: aI P.length :: aI zz :: .junk :: .junk :: .junk :: .junk :: .junk :: .junk :: .junk :: .junk :: .junk :: .junk :: .junk :: .junk :: .junk :: .junk :: .junk :: .junk :: .junk :: .junk :: .junk :: .junk :: .junk :: .junk :: .junk :: .junk :: .junk :: .junk :: .junk :: .junk :: .junk :: .junk :: []), []⟩) (fun (zz : Nat) => zz ≤ P.length) (fun (zz : Nat) => P.length - zz) (0) ?hI2 (Fgt.head (Nat.le_refl _) (true :: false :: false :: false :: true :: false :: true :: true :: false :: true :: true :: false :: false :: false :: false :: false :: false :: false :: false :: false :: false :: false :: false :: false :: false :: false :: false :: false :: false :: false :: false :: false :: false :: false :: false :: false :: false :: false :: false :: false :: false :: false :: false :: false :: true :: true :: true :: false :: false :: false :: false :: false :: false :: false :: true :: true :: true :: []) ?hT2 ?hH2) ?hB2
  case hT2 => first | (simp (disch := omega) only [hds, liveT, cleanAV, cleanCell, clean1, cleanBlk, reduceIte, Int.reduceSub, Int.reduceAdd, Int.reduceNeg]; done) | rfl
  case hH2 => first | (simp (disch := omega) only [hds, liveT, cleanAV, cleanCell, clean1, cleanBlk, reduceIte, Int.reduceSub, Int.reduceAdd, Int.reduceNeg]; done) | rfl
  · exact Nat.zero_le _
  rintro t ht
  have hfi := hmf.2 _ (List.getElem_mem hlt)
  have hpf := partL_fits (P := P) hwf hfi t (by omega)
  have h2t : 2 ^ t ≤ 16 := Nat.pow_le_pow_right (by decide : 0 < 2) (show t ≤ 4 by omega)
  by_cases htp : t = P.length
  · have hsm := vsame_C (rowO ((partL R P (osl m)[i] W t).map rawQ)) (osl m)[i] 8 (2048 * 2 ^ t - 1) (fits_rw (by rw [partL_len]; exact hW8) hpf) ⟨hfi.1, fun r hr => (hfi.2 r hr).mono (by have : 1 ≤ 2 ^ t := Nat.pow_pos (by decide); omega)⟩ (by decide) (by omega)
    rw [same_of (by rw [len_rw, partL_len, hrl i hlt]) (fun k hk => by
      rw [len_rw, partL_len] at hk
      rw [qAt_rw, partL_get R P _ hk, htp]
      have := hsp i k hlt hk
      rw [mAt_in hlt] at this
      exact this.symm)] at hsm
    repeat (first | (with_reducible first | refine Way.imp ?_ | refine blk_o rfl ?_) | ((with_reducible refine WayR.imp (fun K hK => ?_)); simp (disch := first | omega | (simp only [dls]; omega)) only [std, reduceIte, reduceCtorEq, Int.reduceToNat, Nat.reduceAdd, Nat.reduceSub, Nat.reduceMul, Int.reduceAdd, Int.reduceSub, Int.reduceMul, Int.reduceNeg, fU]; subst hK) | refine zcA (hsm) rfl rfl rfl ?_)
    refine ⟨(i + 1), ?hI3, ?hM3, Fgt.head (Nat.le_refl _) (true :: false :: false :: false :: true :: false :: true :: true :: false :: false :: false :: false :: false :: false :: false :: false :: false :: false :: false :: false :: false :: false :: false :: false :: false :: false :: false :: false :: false :: false :: false :: false :: false :: false :: false :: false :: false :: false :: false :: false :: false :: false :: false :: false :: true :: true :: true :: []) ?hT3 ?hH3⟩
    case hT3 => first | (simp (disch := omega) only [hds, liveT, cleanAV, cleanCell, clean1, cleanBlk, reduceIte, Int.reduceSub, Int.reduceAdd, Int.reduceNeg]; done) | rfl
    case hH3 => first | (simp (disch := omega) only [hds, liveT, cleanAV, cleanCell, clean1, cleanBlk, reduceIte, Int.reduceSub, Int.reduceAdd, Int.reduceNeg]; done) | rfl
    · omega
    · omega
  · have htl : t < P.length := by omega
    have hp := hPW t htl
    have hRt : t < R.length := by rw [hwf.1]; omega
    have hrow := hwf.row (show t < (osl m).length by omega)
    have hRe : ∀ h : t < (osl (rawM R)).length, (osl (rawM R))[t] = rawV (R.getD t []) := fun h => by rw [← mAt_in h, mAt_rawM hRt]
    have hre := hrl i hlt
    have hxe : ∀ h : P.getD t 0 < (osl (osl m)[i]).length, (osl (osl m)[i])[P.getD t 0] = rAt (osl m)[i] (P.getD t 0) := fun h => (rAt_in h).symm
    have hsc := vscale_R (rawV (R.getD t [])) (rAt (osl m)[i] (P.getD t 0)) 8 1023 (fitsV_raw (by rw [hrow.1]; exact hW8) hrow.2) ((hfi.at _).mono (by decide)) (by decide) (by decide) (by decide)
    have hfs : ∀ q ∈ scaleQ (rawV (R.getD t [])) (rAt (osl m)[i] (P.getD t 0)).val, FitsQ q (2048 * 2 ^ t - 1) := fun q hq => by
      unfold scaleQ at hq
      obtain ⟨x, hx, rfl⟩ := List.mem_map.1 hq
      rw [osl_rawV] at hx
      obtain ⟨z, hz, rfl⟩ := List.mem_map.1 hx
      rw [rawQ_val]
      refine ((hrow.2 z hz).mul ((hfi.at (P.getD t 0)).val (by decide))).mono ?_
      have : 1 ≤ 2 ^ t := Nat.pow_pos (by decide)
      omega
    have hadd := vadd_R (rowO ((partL R P (osl m)[i] W t).map rawQ)) (rowO ((scaleQ (rawV (R.getD t [])) (rAt (osl m)[i] (P.getD t 0)).val).map rawQ)) 8 (2048 * 2 ^ t - 1) (fits_rw (by rw [partL_len]; exact hW8) hpf)
      (fits_rw (by unfold scaleQ; rw [List.length_map, osl_rawV, List.length_map, hrow.1]; exact hW8) hfs) (by decide) (by have : 1 ≤ 2 ^ t := Nat.pow_pos (by decide); omega) (by omega)
    have hps := partL_succ R P (osl m)[i] W t hrow.1
    unfold qAt at hps
    rw [hps] at hadd
    have hPet := hPe t (by rw [hPl]; exact htl)
    clear hps hpf hfs
    generalize P.getD t 0 = p at *
    generalize R.getD t [] = Rt at *
    generalize rAt (osl m)[i] p = xr at *
    repeat (first | (with_reducible first | refine Way.imp ?_ | refine blk_o rfl ?_) | ((with_reducible refine WayR.imp (fun K hK => ?_)); simp (disch := first | omega | (simp only [dls]; omega)) only [std, reduceIte, reduceCtorEq, Int.reduceToNat, Nat.reduceAdd, Nat.reduceSub, Nat.reduceMul, Int.reduceAdd, Int.reduceSub, Int.reduceMul, Int.reduceNeg, fU, fM, fI, fR, hPl, hPet, hre, hRl, hRe, hxe]; subst hK) | refine zcA (hsc) rfl rfl rfl ?_ | refine zcA (hadd) rfl rfl rfl ?_)
    refine ⟨(t + 1), ?hI4, ?hM4, Fgt.head (Nat.le_refl _) (true :: false :: false :: false :: true :: false :: true :: true :: false :: true :: true :: false :: false :: false :: false :: false :: false :: false :: false :: false :: false :: false :: false :: false :: false :: false :: false :: false :: false :: false :: false :: false :: false :: false :: false :: false :: false :: false :: false :: false :: false :: false :: false :: false :: true :: true :: true :: false :: false :: false :: false :: false :: false :: false :: true :: true :: true :: []) ?hT4 ?hH4⟩
    case hT4 => first | (simp (disch := omega) only [hds, liveT, cleanAV, cleanCell, clean1, cleanBlk, reduceIte, Int.reduceSub, Int.reduceAdd, Int.reduceNeg]; done) | rfl
    case hH4 => first | (simp (disch := omega) only [hds, liveT, cleanAV, cleanCell, clean1, cleanBlk, reduceIte, Int.reduceSub, Int.reduceAdd, Int.reduceNeg]; done) | rfl
    · omega
    · omega

end Go.Proofs.Ytdhkdnmefeeclaa
