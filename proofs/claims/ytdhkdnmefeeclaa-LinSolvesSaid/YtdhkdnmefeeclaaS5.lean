/- Walks of offcutref06: Solve. -/
import Derived.Test.YtdhkdnmefeeclaaM4
set_option linter.unusedSimpArgs false
set_option linter.unusedVariables false
set_option linter.unnecessarySimpa false
set_option linter.unusedSimpArgs false
set_option linter.unusedVariables false
set_option maxRecDepth 100000
set_option maxHeartbeats 4000000
namespace Go.Proofs.Ytdhkdnmefeeclaa
open Go Go.Am Go.Proofs Go.RowKit Go.Off

/-- A matrix with a row in place of its column k: its first rows. -/
def colD (D : QM) (k : Nat) (b : List Rat) (i : Nat) : QM := (List.range i).map fun j => (D.getD j []).set k (b.getD j 0)
theorem colD_succ (D : QM) (k : Nat) (b : List Rat) (i : Nat) : colD D k b (i + 1) = colD D k b i ++ [(D.getD i []).set k (b.getD i 0)] := by
  unfold colD; rw [List.range_succ, List.map_append]; rfl
theorem colD_len (D : QM) (k : Nat) (b : List Rat) (i : Nat) : (colD D k b i).length = i := by unfold colD; rw [List.length_map, List.length_range]
def solD (n : Nat) (D : QM) (b : List Rat) : List Rat := (List.range n).map fun k => detL n (colD D k b n) * (detL n D)⁻¹
theorem wf_colD {D : QM} {n L k : Nat} {b : List Rat} (h : Wf D n n L) (hb : ∀ q ∈ b, FitsQ q L) (hL : 1 ≤ L) : Wf (colD D k b n) n n L := by
  refine ⟨colD_len _ _ _ _, fun r hr => ?_⟩
  unfold colD at hr
  obtain ⟨j, hj, rfl⟩ := List.mem_map.1 hr
  rw [List.mem_range] at hj
  have hrow := h.row hj
  refine ⟨by rw [List.length_set]; exact hrow.1, fun q hq => ?_⟩
  rcases List.mem_or_eq_of_mem_set hq with h' | h'
  · exact hrow.2 q h'
  · rw [h', List.getD_eq_getElem?_getD]
    cases hg : b[j]? with
    | none => exact fitsQ_zero L hL
    | some y => exact hb y (List.mem_of_getElem? hg)
theorem qD_sm (Q : QM) : qD (some (Q.map some)) = Q := by
  unfold qD
  rw [osl_some, List.map_map]
  conv => rhs; rw [← List.map_id Q]
  exact List.map_congr_left (fun r _ => rfl)

abbrev c65_k1 : CC := (.seq (.reg [⟨(some 50), none, (.mv (.tmp 5))⟩, ⟨(some 4), none, (.mv (.tmp 50))⟩]) .ret)
abbrev c65_k2 : CC := (.reg [⟨(some 18), none, (.mv (.tmp 7))⟩, ⟨(some 19), none, (.bin .add (.tmp 18) (.const (.int .i64 (1))))⟩, ⟨(some 7), none, (.mv (.tmp 19))⟩])
abbrev c65_k3 : CC := (.reg [⟨(some 43), none, (.mv (.tmp 5))⟩, ⟨(some 44), none, (.mv (.tmp 8))⟩, ⟨(some 45), none, (.callf (.func 61) [(.tmp 44)])⟩, ⟨(some 46), none, (.load 2 true (.tmp 6))⟩, ⟨(some 47), none, (.callf (.func 37) [(.tmp 45), (.tmp 46)])⟩, ⟨(some 48), none, (.mkrow 33 2 [(.tmp 47)])⟩, ⟨(some 49), none, (.append 33 2 32 (.tmp 43) (.tmp 48))⟩, ⟨(some 5), none, (.mv (.tmp 49))⟩])
abbrev c65_b1 : CC := (.seq (.seq (.reg [⟨(some 20), none, (.mv (.tmp 9))⟩, ⟨(some 21), none, (.mv (.tmp 0))⟩, ⟨(some 22), none, (.len false (.tmp 21))⟩, ⟨(some 23), none, (.bin .lss (.tmp 20) (.tmp 22))⟩]) (.cond (.tmp 23) .skip (.exit 2))) (.seq (.block 3 (.seq (.reg [⟨(some 26), none, (.mkrow 33 2 [])⟩, ⟨(some 27), none, (.mv (.tmp 0))⟩, ⟨(some 28), none, (.mv (.tmp 9))⟩, ⟨(some 29), none, (.iaddr 1 none (.tmp 27) (.tmp 28))⟩, ⟨(some 30), none, (.load 1 false (.tmp 29))⟩, ⟨(some 31), none, (.append 33 2 32 (.tmp 26) (.tmp 30))⟩, ⟨(some 10), none, (.mv (.tmp 31))⟩]) (.seq (.reg [⟨(some 32), none, (.mv (.tmp 10))⟩, ⟨(some 33), none, (.mv (.tmp 7))⟩, ⟨(some 34), none, (.mv (.tmp 1))⟩, ⟨(some 35), none, (.mv (.tmp 9))⟩, ⟨(some 36), none, (.iaddr 2 none (.tmp 34) (.tmp 35))⟩, ⟨(some 37), none, (.load 2 true (.tmp 36))⟩, ⟨(some 38), none, (.iaddr 2 none (.tmp 32) (.tmp 33))⟩, ⟨none, none, (.store 2 (.tmp 38) (.tmp 37))⟩]) (.reg [⟨(some 39), none, (.mv (.tmp 8))⟩, ⟨(some 40), none, (.mv (.tmp 10))⟩, ⟨(some 41), none, (.mkrow 30 1 [(.tmp 40)])⟩, ⟨(some 42), none, (.append 30 1 24 (.tmp 39) (.tmp 41))⟩, ⟨(some 8), none, (.mv (.tmp 42))⟩])))) (.reg [⟨(some 24), none, (.mv (.tmp 9))⟩, ⟨(some 25), none, (.bin .add (.tmp 24) (.const (.int .i64 (1))))⟩, ⟨(some 9), none, (.mv (.tmp 25))⟩])))
abbrev c65_b2 : CC := (.seq (.seq (.reg [⟨(some 14), none, (.mv (.tmp 7))⟩, ⟨(some 15), none, (.mv (.tmp 0))⟩, ⟨(some 16), none, (.len false (.tmp 15))⟩, ⟨(some 17), none, (.bin .lss (.tmp 14) (.tmp 16))⟩]) (.cond (.tmp 17) .skip (.exit 0))) (.seq (.block 1 (.seq (.reg [⟨(some 8), none, (.mv (.const (.slice none 0 0)))⟩]) (.seq (.seq (.reg [⟨(some 9), none, (.mv (.const (.int .i64 (0))))⟩]) (.block 2 (.loop c65_b1))) c65_k3))) c65_k2))
abbrev c65 : CC := (.seq (.reg [⟨(some 4), none, (.mv (.const (.slice none 0 0)))⟩]) (.seq (.reg [⟨(some 5), none, (.mv (.const (.slice none 0 0)))⟩]) (.seq (.reg [⟨(some 11), none, (.mv (.tmp 0))⟩, ⟨(some 12), none, (.callf (.func 61) [(.tmp 11)])⟩, ⟨(some 13), none, (.callf (.func 121) [(.tmp 12)])⟩, ⟨(some 6), none, (.new 33 [(.string ⟨#[]⟩), (.string ⟨#[]⟩)])⟩, ⟨none, none, (.store 2 (.tmp 6) (.tmp 13))⟩]) (.seq (.seq (.reg [⟨(some 7), none, (.mv (.const (.int .i64 (0))))⟩]) (.block 0 (.loop c65_b2))) c65_k1))))
theorem cc65 : ccode Try.prog [] (Try.f65.body.getD .skip) = some c65 := by kernel_rfl
theorem body65 : Try.f65.body = some (Try.f65.body.getD .skip) := rfl

theorem dsolve_C (x : Option DMM) (b : DV) (n L : Nat) (hx : Wf (qD x) n n L) (hb : ∀ q ∈ osl b, FitsQ q L) (hbl : (osl b).length = n) (hn : n ≤ 8) (hL : 1 ≤ L) (hB : detB L n ≤ 1000000) (h0 : detL n (qD x) ≠ 0) :
    PureC Try.prog 65 [aDM x, aD b] (.ret (aD (rowO (solD n (qD x) (osl b))))) := by
  refine PureC.fresh_rowO (ty := 33) ?_
  have hxl : (osl x).length = n := by rw [← qD_len]; exact hx.1
  have hdet := det_C L hL n x hx hn (by omega)
  have hfd := fits_detL L hL n _ hx
  have htd := turned_C (detL n (qD x)) h0 (hfd.mono (by omega))
  have hfi : FitsQ (detL n (qD x))⁻¹ (detB L n) := by
    have := hfd.inv (detB_pos L n) h0
    rw [Rat.div_def, Rat.one_mul] at this
    exact this
  have hso : ∀ k, k < n → (solD n (qD x) (osl b)).take (k + 1) = (solD n (qD x) (osl b)).take k ++ [detL n (colD (qD x) k (osl b) n) * (detL n (qD x))⁻¹] := fun k hk => by
    have hl : (solD n (qD x) (osl b)).length = n := by unfold solD; rw [List.length_map, List.length_range]
    rw [List.take_succ_eq_append_getElem (by omega)]
    unfold solD
    rw [List.getElem_map, List.getElem_range]
  have hsl : (solD n (qD x) (osl b)).length = n := by unfold solD; rw [List.length_map, List.length_range]
  generalize solD n (qD x) (osl b) = sol at *
  generalize (detL n (qD x))⁻¹ = di at *
  refine pureC_of (rs := [(RV.tmp 4)]) Try.func65 (fun a w => Try.call65 a w) body65 cc65 (by kernel_rfl) ?_
  rw [Try.ntmps65]
  simp only [frs, Nat.reduceAdd, Nat.reduceSub]
  repeat (first | (with_reducible first | refine Way.imp ?_ | refine blk_o rfl ?_) | ((with_reducible refine WayR.imp (fun K hK => ?_)); simp (disch := first | omega | (simp only [dls]; omega)) only [std, reduceIte, reduceCtorEq, Int.reduceToNat, Nat.reduceAdd, Nat.reduceSub, Nat.reduceMul, Int.reduceAdd, Int.reduceSub, Int.reduceMul, Int.reduceNeg, fU, constAV_arr]; subst hK) | refine zcA (hdet) rfl rfl rfl ?_ | refine zcA (htd) rfl rfl rfl ?_)
  refine AWp.fgt ?_ (Fgt.openNil (i := 5) rfl 33 2)
  simp only [List.set_cons_succ, List.set_cons_zero, List.length_nil, List.length_cons, List.nil_append, List.cons_append, Nat.reduceAdd]
  refine awp_loop (fun (zz : Nat × (List Rat) × Nat × Bool) => ⟨(aDM x :: aD b :: .junk :: .junk :: .junk :: .one (.own 1 zz.2.2.1) :: .one (.ptr 0 0 0 0) :: aI zz.1 :: .junk :: .junk :: .junk :: .junk :: .junk :: .junk :: .junk :: .junk :: .junk :: .junk :: .junk :: .junk :: .junk :: .junk :: .junk :: .junk :: .junk :: .junk :: .junk :: .junk :: .junk :: .junk :: .junk :: .junk :: .junk :: .junk :: .junk :: .junk :: .junk :: .junk :: .junk :: .junk :: .junk :: .junk :: .junk :: .junk :: .junk :: .junk :: .junk :: .junk :: .junk :: .junk :: .junk :: []), [⟨0, 33, 2, [[.c (.str (decZ di.num)), .c (.str (dec di.den))]], true, true⟩, ⟨zz.2.2.1, 33, 2, encB fD zz.2.1, true, zz.2.2.2⟩]⟩) (fun (zz : Nat × (List Rat) × Nat × Bool) => zz.1 ≤ n ∧ zz.2.1 = sol.take zz.1 ∧ zz.2.2.2 = !zz.2.1.isEmpty) (fun (zz : Nat × (List Rat) × Nat × Bool) => n - zz.1) (0, [], 0, false) ?hI1 (Fgt.head (Nat.zero_le 2) [true, true, false, false, false, true, true, true] ?hT1 ?hH1) ?hB1
  case hT1 => first | (simp (disch := omega) only [hds, liveT, cleanAV, cleanCell, clean1, cleanBlk, reduceIte, Int.reduceSub, Int.reduceAdd, Int.reduceNeg, encB_nil]; done) | rfl
  case hH1 => first | (simp (disch := omega) only [hds, liveT, cleanAV, cleanCell, clean1, cleanBlk, reduceIte, Int.reduceSub, Int.reduceAdd, Int.reduceNeg, encB_nil]; done) | rfl
  · dsimp only; exact ⟨Nat.zero_le _, rfl, rfl⟩
  rintro ⟨k, out, v, nn⟩ ⟨hk, ho, hnn⟩
  dsimp only at hk ho hnn
  by_cases hkn : k = n
  · repeat (first | (with_reducible first | refine Way.imp ?_ | refine blk_o rfl ?_) | ((with_reducible refine WayR.imp (fun K hK => ?_)); simp (disch := first | omega | (simp only [dls]; omega)) only [std, reduceIte, reduceCtorEq, Int.reduceToNat, Nat.reduceAdd, Nat.reduceSub, Nat.reduceMul, Int.reduceAdd, Int.reduceSub, Int.reduceMul, Int.reduceNeg, fU, constAV_arr]; subst hK))
    refine ⟨_, rfl, ?_⟩
    rw [hkn, List.take_of_length_le (by omega)] at ho
    rw [← ho, ← hnn]
    exact Ends.fresh_enc rfl
  · have hkl : k < n := by omega
    have hol : out.length = k := by rw [ho, List.length_take]; omega
    repeat (first | (with_reducible first | refine Way.imp ?_ | refine blk_o rfl ?_) | ((with_reducible refine WayR.imp (fun K hK => ?_)); simp (disch := first | omega | (simp only [dls]; omega)) only [std, reduceIte, reduceCtorEq, Int.reduceToNat, Nat.reduceAdd, Nat.reduceSub, Nat.reduceMul, Int.reduceAdd, Int.reduceSub, Int.reduceMul, Int.reduceNeg, fU, constAV_arr]; subst hK))
    refine AWp.fgt ?_ (Fgt.openNil (i := 8) rfl 30 1)
    simp only [List.set_cons_succ, List.set_cons_zero, List.length_nil, List.length_cons, List.nil_append, List.cons_append, Nat.reduceAdd]
    refine awp_loop (fun (zz : Nat × DMM × Nat × Bool) => ⟨(aDM x :: aD b :: .junk :: .junk :: .junk :: .one (.own 1 v) :: .one (.ptr 0 0 0 0) :: aI k :: .one (.own 2 zz.2.2.1) :: aI zz.1 :: .junk :: .junk :: .junk :: .junk :: .junk :: .junk :: .junk :: .junk :: .junk :: .junk :: .junk :: .junk :: .junk :: .junk :: .junk :: .junk :: .junk :: .junk :: .junk :: .junk :: .junk :: .junk :: .junk :: .junk :: .junk :: .junk :: .junk :: .junk :: .junk :: .junk :: .junk :: .junk :: .junk :: .junk :: .junk :: .junk :: .junk :: .junk :: .junk :: .junk :: .junk :: []), [⟨0, 33, 2, [[.c (.str (decZ di.num)), .c (.str (dec di.den))]], true, true⟩, ⟨v, 33, 2, encB fD out, true, nn⟩, ⟨zz.2.2.1, 30, 1, encB fDM zz.2.1, true, zz.2.2.2⟩]⟩) (fun (zz : Nat × DMM × Nat × Bool) => zz.1 ≤ n ∧ zz.2.1 = (colD (qD x) k (osl b) zz.1).map some ∧ zz.2.2.2 = !zz.2.1.isEmpty) (fun (zz : Nat × DMM × Nat × Bool) => n - zz.1) (0, [], 0, false) ?hI2 (Fgt.head (Nat.zero_le 3) [true, true, false, false, false, true, true, true, true, true] ?hT2 ?hH2) ?hB2
    case hT2 => first | (simp (disch := omega) only [hds, liveT, cleanAV, cleanCell, clean1, cleanBlk, reduceIte, Int.reduceSub, Int.reduceAdd, Int.reduceNeg, encB_nil]; done) | rfl
    case hH2 => first | (simp (disch := omega) only [hds, liveT, cleanAV, cleanCell, clean1, cleanBlk, reduceIte, Int.reduceSub, Int.reduceAdd, Int.reduceNeg, encB_nil]; done) | rfl
    · dsimp only; exact ⟨Nat.zero_le _, rfl, rfl⟩
    rintro ⟨i, xs, u, xn⟩ ⟨hi, hxs, hxn⟩
    dsimp only at hi hxs hxn
    have hxsl : xs.length = i := by rw [hxs, List.length_map, colD_len]
    by_cases hin : i = n
    · have hxt : xn = true := by
        rw [hxn]
        cases xs with
        | nil => simp at hxsl; omega
        | cons a l => rfl
      subst hxt
      rw [hin] at hxs
      have hwc := wf_colD (k := k) hx hb hL
      have hd2 := det_C L hL n (some ((colD (qD x) k (osl b) n).map some)) (by rw [qD_sm]; exact hwc) hn (by omega)
      rw [qD_sm, ← hxs] at hd2
      have hfd2 := fits_detL L hL n _ hwc
      have hmul := qmul_C (detL n (colD (qD x) k (osl b) n)) di (hfd2.mono (by omega)) (hfi.mono (by omega))
      have hsk := hso k hkl
      generalize detL n (colD (qD x) k (osl b) n) = dk at *
      repeat (first | (with_reducible first | refine Way.imp ?_ | refine blk_o rfl ?_) | ((with_reducible refine WayR.imp (fun K hK => ?_)); simp (disch := first | omega | (simp only [dls]; omega)) only [std, reduceIte, reduceCtorEq, Int.reduceToNat, Nat.reduceAdd, Nat.reduceSub, Nat.reduceMul, Int.reduceAdd, Int.reduceSub, Int.reduceMul, Int.reduceNeg, fU, constAV_arr]; subst hK) | (apply call_flat (hd2) rfl; (case hcl => (simp only [evs, St.ev, constAV, evl]; (repeat (first | exact closeAVs_nil | (apply closeAVs_cons; (first | (refine close_own3 rfl (by decide)) | (refine close_ownO rfl (by decide) ?_; assumption) | rfl)))); done)); (case hf => rfl)) | refine zcA (hmul) rfl rfl rfl ?_)
      refine ⟨(k + 1, out ++ [dk * di], v + 1, true), ?hI3, ?hM3, Fgt.head (Nat.zero_le 2) [true, true, false, false, false, true, true, true] ?hT3 ?hH3⟩
      case hT3 => first | (simp (disch := omega) only [hds, liveT, cleanAV, cleanCell, clean1, cleanBlk, reduceIte, Int.reduceSub, Int.reduceAdd, Int.reduceNeg, encB_snoc_D, List.isEmpty_cons, Bool.or_true, Bool.not_false]; done) | rfl
      case hH3 => first | (simp (disch := omega) only [hds, liveT, cleanAV, cleanCell, clean1, cleanBlk, reduceIte, Int.reduceSub, Int.reduceAdd, Int.reduceNeg, encB_snoc_D, List.isEmpty_cons, Bool.or_true, Bool.not_false]; done) | rfl
      · dsimp only
        exact ⟨by omega, by rw [hsk, ho], by simp⟩
      · dsimp only; omega
    · have hil : i < (osl x).length := by omega
      have hibl : i < (osl b).length := by omega
      have hrow : (osl (osl x)[i]).length = n := by rw [← qD_row x hil]; exact (hx.row (by omega)).1
      repeat (first | (with_reducible first | refine Way.imp ?_ | refine blk_o rfl ?_) | ((with_reducible refine WayR.imp (fun K hK => ?_)); simp (disch := first | omega | (simp only [dls]; omega)) only [std, reduceIte, reduceCtorEq, Int.reduceToNat, Nat.reduceAdd, Nat.reduceSub, Nat.reduceMul, Int.reduceAdd, Int.reduceSub, Int.reduceMul, Int.reduceNeg, fU, constAV_arr, fDM, fD, hrow, encBackD, List.length_map, ne_eq, not_false_eq_true]; subst hK))
      have hbe : (osl b).getD i 0 = (osl b)[i] := by rw [List.getD_eq_getElem?_getD, List.getElem?_eq_getElem hibl]; rfl
      have hset : (encB fD (osl (osl x)[i])).set k [Cell.c (.str (decZ (osl b)[i].num)), Cell.c (.str (dec (osl b)[i].den))] = encB fD ((osl (osl x)[i]).set k (osl b)[i]) := encB_set _ _ _
      have hcs : (colD (qD x) k (osl b) (i + 1)).map some = xs ++ [some ((osl (osl x)[i]).set k (osl b)[i])] := by
        rw [hxs, colD_succ, List.map_append, qD_row x hil, hbe]; rfl
      rw [hset]
      generalize (osl (osl x)[i]).set k (osl b)[i] = r at *
      refine ⟨(i + 1, xs ++ [some r], u + 1, true), ⟨by dsimp only; omega, ?_, ?_⟩, by dsimp only; omega, Fgt.trans (Fgt.cellSnoc (b := 2) (c := 3) (f := fDM) (l := xs) (g := fD) (r := r) (x := some r) rfl rfl (by decide) rfl (by decide)) ?_⟩
      · dsimp only; rw [hcs]
      · dsimp only; cases xs <;> rfl
      · rw [freeze_from]
        simp only [fzl, Nat.reduceBEq, Nat.reduceAdd, Bool.false_eq_true, if_true, if_false, reduceIte, List.set_cons_zero, List.set_cons_succ]
        refine Fgt.head (Nat.zero_le 3) [true, true, false, false, false, true, true, true, true, true] ?hT4 ?hH4
        case hT4 => first | (simp (disch := omega) only [hds, liveT, cleanAV, cleanCell, clean1, cleanBlk, reduceIte, Int.reduceSub, Int.reduceAdd, Int.reduceNeg, List.isEmpty_cons, Bool.or_true, Bool.not_false]; done) | rfl
        case hH4 => first | (simp (disch := omega) only [hds, liveT, cleanAV, cleanCell, clean1, cleanBlk, reduceIte, Int.reduceSub, Int.reduceAdd, Int.reduceNeg, List.isEmpty_cons, Bool.or_true, Bool.not_false]; done) | rfl

end Go.Proofs.Ytdhkdnmefeeclaa
set_option linter.unusedSimpArgs false
set_option linter.unusedVariables false
set_option maxRecDepth 100000
set_option maxHeartbeats 4000000
namespace Go.Proofs.Ytdhkdnmefeeclaa
open Go Go.Am Go.Proofs Go.RowKit Go.Off

theorem augRed_eq (m : MM) (b : VV) (hk : rectTo m (osl m).length = true) (hc : cols m = (osl m).length) : augRed m b = redTo (qM (augM m b)) ((osl m).length + 1) := by
  unfold augRed
  by_cases h0 : (osl m).length = 0
  · have h1 : augM m b = none := by unfold augM augTo; rw [h0]; rfl
    rw [h1, h0]
    rfl
  · rw [aug_cols m b hk hc h0]
theorem aug_shp (m : MM) (b : VV) (hk : rectTo m (osl m).length = true) (hc : cols m = (osl m).length) : Shp (qM (augM m b)) (osl m).length ((osl m).length + 1) := by
  refine ⟨by unfold qM; rw [List.length_map, aug_len], fun i hi => ?_⟩
  rw [qM_row, List.length_map, aug_row m b hk hc hi]
theorem aug_eQ (m : MM) (b : VV) (hk : rectTo m (osl m).length = true) (hc : cols m = (osl m).length) {i : Nat} (hi : i < (osl m).length) :
    (∀ c, c < (osl m).length → eQ (qM (augM m b)) i c = eQ (qM m) i c) ∧ eQ (qM (augM m b)) i (osl m).length = qAt b i := by
  have hl : (osl (mAt m i)).length = (osl m).length := by rw [row_len hk hi, hc]
  constructor
  · intro c hc'
    rw [eQ_qM, eQ_qM, aug_at m b hi]
    unfold augV qAt rAt
    rw [osl_some, List.getD_eq_getElem?_getD, List.getElem?_append_left (by omega), List.getD_eq_getElem?_getD]
  · rw [eQ_qM, aug_at m b hi]
    unfold augV
    unfold qAt
    rw [show rAt (some (osl (mAt m i) ++ [rAt b i])) (osl m).length = rAt b i by
      conv => lhs; unfold rAt
      rw [osl_some, List.getD_eq_getElem?_getD, List.getElem?_append_right (by omega), hl, Nat.sub_self]
      rfl]
theorem aug_det (m : MM) (b : VV) (hk : rectTo m (osl m).length = true) (hc : cols m = (osl m).length) : detF (osl m).length (eQ (qM (augM m b))) = detL (osl m).length (qM m) := by
  have hs := shp_qM hk
  rw [hc] at hs
  rw [detL_eq hs]
  exact detF_congr (fun i c hi hc' => (aug_eQ m b hk hc hi).1 c hc')
theorem solveOk_iff (m : MM) (b : VV) (hk : rectTo m (osl m).length = true) (hc : cols m = (osl m).length) (hn : (osl m).length ≤ 4) : solveOk m b = true ↔ detL (osl m).length (qM m) ≠ 0 := by
  rw [← aug_det m b hk hc, ← solve_ok (aug_shp m b hk hc) hn]
  unfold solveOk
  rw [augRed_eq m b hk hc]
  simp only [Bool.and_eq_true, Bool.or_eq_true, decide_eq_true_eq]
theorem solveQ_len (m : MM) (b : VV) (hk : rectTo m (osl m).length = true) (hc : cols m = (osl m).length) : (solveQ m b).length = (osl m).length := by
  unfold solveQ
  rw [List.length_map, augRed_eq m b hk hc]
  exact (red_inv (aug_shp m b hk hc) _ (Nat.le_refl _)).shp.1
theorem solveQ_get (m : MM) (b : VV) (hk : rectTo m (osl m).length = true) (hc : cols m = (osl m).length) {i : Nat} (hi : i < (osl m).length) : (solveQ m b).getD i 0 = eQ (redTo (qM (augM m b)) ((osl m).length + 1)).1 i (osl m).length := by
  have hl := (red_inv (aug_shp m b hk hc) _ (Nat.le_refl _)).shp.1
  unfold solveQ eQ
  rw [augRed_eq m b hk hc]
  rw [List.getD_eq_getElem?_getD, List.getElem?_map, List.getElem?_eq_getElem (by rw [hl]; exact hi), List.getD_eq_getElem?_getD (l := (redTo (qM (augM m b)) ((osl m).length + 1)).1), List.getElem?_eq_getElem (by rw [hl]; exact hi)]
  rfl
theorem solve_same {m : MM} {b : VV} (hk : rectTo m (osl m).length = true) (hc : cols m = (osl m).length) (hn : (osl m).length ≤ 4) (hb : (osl b).length = (osl m).length) (h0 : detL (osl m).length (qM m) ≠ 0) :
    sameQ (rowO ((applyQ m (rowO ((solveQ m b).map rawQ))).map rawQ)) b = true := by
  refine same_of (by rw [len_rw, len_apply, hb]) (fun i hi => ?_)
  rw [len_rw, len_apply] at hi
  rw [qAt_rw, get_apply m _ hi, dot_sum, ← (aug_eQ m b hk hc hi).2, solve_is (aug_shp m b hk hc) hn (by rw [aug_det m b hk hc]; exact h0) i hi]
  unfold vmin
  rw [len_rw, solveQ_len m b hk hc, row_len hk hi, hc, Nat.min_self]
  refine sumR_congr (fun k hk' => ?_)
  rw [qAt_rw, solveQ_get m b hk hc hk', (aug_eQ m b hk hc hi).1 k hk', eQ_qM]
theorem eQ_colD {D : QM} {n k i : Nat} (b : List Rat) (hs : Shp D n n) (hk : k < n) (hi : i < n) (c : Nat) : eQ (colD D k b n) i c = if c = k then b.getD i 0 else eQ D i c := by
  unfold eQ colD
  rw [List.getD_eq_getElem?_getD (l := List.map _ _), List.getElem?_map, List.getElem?_range hi]
  show ((D.getD i []).set k (b.getD i 0)).getD c 0 = _
  rw [List.getD_eq_getElem?_getD]
  by_cases h : c = k
  · subst h
    rw [if_pos rfl, List.getElem?_set_self (by rw [hs.2 i hi]; exact hk)]
    rfl
  · rw [if_neg h, List.getElem?_set_ne (fun e => h e.symm), List.getD_eq_getElem?_getD (l := D.getD i [])]
theorem rowD_get (b : VV) (i : Nat) : (rowD b).getD i 0 = qAt b i := by
  rw [← dAt_rowD]; unfold dAt; rw [osl_rowO]
theorem sol_eq {m : MM} {b : VV} (hk : rectTo m (osl m).length = true) (hc : cols m = (osl m).length) (hn : (osl m).length ≤ 4) (h0 : detL (osl m).length (qM m) ≠ 0) : solD (osl m).length (qM m) (rowD b) = solveQ m b := by
  have hs := shp_qM hk
  rw [hc] at hs
  have hl := solveQ_len m b hk hc
  apply List.ext_getElem
  · unfold solD; rw [List.length_map, List.length_range, hl]
  · intro k h1 h2
    have hkn : k < (osl m).length := by rw [← hl]; exact h2
    have h3 : (solveQ m b)[k] = (solveQ m b).getD k 0 := by rw [List.getD_eq_getElem?_getD, List.getElem?_eq_getElem h2]; rfl
    have h5 : (solD (osl m).length (qM m) (rowD b))[k] = detL (osl m).length (colD (qM m) k (rowD b) (osl m).length) * (detL (osl m).length (qM m))⁻¹ := by
      have h6 : (solD (osl m).length (qM m) (rowD b))[k] = (solD (osl m).length (qM m) (rowD b)).getD k 0 := by rw [List.getD_eq_getElem?_getD, List.getElem?_eq_getElem h1]; rfl
      rw [h6]
      unfold solD
      rw [List.getD_eq_getElem?_getD, List.getElem?_map, List.getElem?_range hkn]
      rfl
    rw [h3, solveQ_get m b hk hc hkn, h5]
    have h4 : detL (osl m).length (colD (qM m) k (rowD b) (osl m).length) = detF (osl m).length (colF (eQ (qM (augM m b))) k (fun i => eQ (qM (augM m b)) i (osl m).length)) := by
      have hsc : Shp (colD (qM m) k (rowD b) (osl m).length) (osl m).length (osl m).length := by
        refine ⟨colD_len _ _ _ _, fun i hi => ?_⟩
        unfold colD
        rw [List.getD_eq_getElem?_getD, List.getElem?_map, List.getElem?_range hi]
        show (((qM m).getD i []).set k _).length = _
        rw [List.length_set, hs.2 i hi]
      rw [detL_eq hsc]
      refine detF_congr (fun i c hi hc' => ?_)
      rw [eQ_colD _ hs hkn hi, rowD_get, (aug_eQ m b hk hc hi).2.symm]
      unfold colF
      split
      · rfl
      · exact ((aug_eQ m b hk hc hi).1 c hc').symm
    rw [h4, solve_cramer (aug_shp m b hk hc) hn (by rw [aug_det m b hk hc]; exact h0) k hkn, aug_det m b hk hc, Rat.mul_assoc, Rat.mul_inv_cancel _ h0, Rat.mul_one]
theorem solveQ_fits {m : MM} {b : VV} (hf : FitsM m 8 3) (hb : FitsV b 8 3) (hk : rectTo m (osl m).length = true) (hc : cols m = (osl m).length) (hn : (osl m).length ≤ 4) (hbl : (osl b).length = (osl m).length) : ∀ q ∈ solveQ m b, FitsQ q 1023 := by
  have haf := aug_fits hf hb hbl
  have hak := aug_ok m b hk hc (by omega)
  have hw := red_fits (wf_qM haf hak (by decide)) (by decide) (cols (augM m b)) (Nat.le_refl _)
  intro q hq
  unfold solveQ at hq
  obtain ⟨r, hr, rfl⟩ := List.mem_map.1 hq
  have h3 := hw.2.1.2 r hr
  have hP := hw.1
  rw [aug_len] at hP
  have h4 : 4 ^ (redTo (qM (augM m b)) (cols (augM m b))).2.length ≤ 256 := pow4_4 (by omega)
  rw [List.getD_eq_getElem?_getD]
  cases hg : r[(osl m).length]? with
  | none => exact fitsQ_zero 1023 (by decide)
  | some y => exact (h3.2 y (List.mem_of_getElem? hg)).mono (by omega)

abbrev c12 : CC := (.seq (.reg [⟨(some 4), none, (.mv (.const (.bool false)))⟩]) (.seq (.seq (.reg [⟨(some 12), none, (.mv (.tmp 0))⟩, ⟨(some 13), none, (.callf (.func 54) [(.tmp 12)])⟩, ⟨(some 14), none, (.un .not (.tmp 13))⟩, ⟨(some 15), none, (.mv (.tmp 14))⟩, ⟨(some 16), (some (15, false)), (.mv (.tmp 1))⟩, ⟨(some 17), (some (15, false)), (.callf (.func 26) [(.tmp 16)])⟩, ⟨(some 18), (some (15, false)), (.un .not (.tmp 17))⟩, ⟨(some 19), none, (.pick (.tmp 15) (.const (.bool true)) (.tmp 18))⟩]) (.cond (.tmp 19) (.seq (.reg [⟨(some 20), none, (.callf (.func 55) [])⟩, ⟨(some 4), none, (.mv (.tmp 20))⟩]) .ret) .skip)) (.seq (.reg [⟨(some 22), none, (.mv (.tmp 0))⟩, ⟨(some 23), none, (.mv (.tmp 1))⟩, ⟨(some 24), none, (.callf (.func 63) [(.tmp 22), (.tmp 23)])⟩, ⟨(some 21), none, (.mv (.tmp 24))⟩, ⟨(some 25), none, (.ext (.tmp 21) 0)⟩, ⟨(some 26), none, (.ext (.tmp 21) 1)⟩, ⟨(some 5), none, (.mv (.tmp 25))⟩, ⟨(some 6), none, (.mv (.tmp 26))⟩]) (.seq (.reg [⟨(some 28), none, (.mv (.tmp 0))⟩, ⟨(some 29), none, (.callf (.func 53) [(.tmp 28)])⟩, ⟨(some 27), none, (.mv (.tmp 29))⟩, ⟨(some 30), none, (.ext (.tmp 27) 0)⟩, ⟨(some 31), none, (.ext (.tmp 27) 1)⟩, ⟨(some 32), none, (.ext (.tmp 27) 2)⟩, ⟨(some 7), none, (.mv (.tmp 30))⟩, ⟨(some 8), none, (.mv (.tmp 31))⟩, ⟨(some 9), none, (.mv (.tmp 32))⟩]) (.seq (.seq (.reg [⟨(some 33), none, (.mv (.tmp 9))⟩, ⟨(some 34), none, (.un .not (.tmp 33))⟩, ⟨(some 35), none, (.mv (.tmp 34))⟩, ⟨(some 36), (some (35, false)), (.mv (.tmp 7))⟩, ⟨(some 37), (some (35, false)), (.mv (.tmp 8))⟩, ⟨(some 38), (some (35, false)), (.bin .neq (.tmp 36) (.tmp 37))⟩, ⟨(some 39), none, (.pick (.tmp 35) (.const (.bool true)) (.tmp 38))⟩, ⟨(some 40), none, (.mv (.tmp 39))⟩, ⟨(some 41), (some (40, false)), (.mv (.tmp 1))⟩, ⟨(some 42), (some (40, false)), (.len false (.tmp 41))⟩, ⟨(some 43), (some (40, false)), (.mv (.tmp 7))⟩, ⟨(some 44), (some (40, false)), (.bin .neq (.tmp 42) (.tmp 43))⟩, ⟨(some 45), none, (.pick (.tmp 40) (.const (.bool true)) (.tmp 44))⟩]) (.cond (.tmp 45) (.seq (.reg [⟨(some 46), none, (.mv (.tmp 5))⟩, ⟨(some 47), none, (.len false (.tmp 46))⟩, ⟨(some 48), none, (.bin .eql (.tmp 47) (.const (.int .i64 (0))))⟩, ⟨(some 49), none, (.mv (.tmp 48))⟩, ⟨(some 50), (some (49, true)), (.mv (.tmp 6))⟩, ⟨(some 51), (some (49, true)), (.bin .eql (.tmp 50) (.const (.int .i64 (7))))⟩, ⟨(some 52), none, (.pick (.tmp 49) (.tmp 51) (.const (.bool false)))⟩, ⟨(some 53), none, (.mv (.tmp 52))⟩, ⟨(some 54), (some (53, true)), (.callf (.func 55) [])⟩, ⟨(some 55), none, (.pick (.tmp 53) (.tmp 54) (.const (.bool false)))⟩, ⟨(some 4), none, (.mv (.tmp 55))⟩]) .ret) .skip)) (.seq (.seq (.reg [⟨(some 56), none, (.mv (.tmp 0))⟩, ⟨(some 57), none, (.callf (.func 62) [(.tmp 56)])⟩, ⟨(some 58), none, (.callf (.func 61) [(.tmp 57)])⟩, ⟨(some 59), none, (.field 0 1 false (.tmp 58))⟩, ⟨(some 60), none, (.bin .eql (.tmp 59) (.const (.string ⟨#[48]⟩)))⟩]) (.cond (.tmp 60) (.seq (.reg [⟨(some 61), none, (.mv (.tmp 5))⟩, ⟨(some 62), none, (.len false (.tmp 61))⟩, ⟨(some 63), none, (.bin .eql (.tmp 62) (.const (.int .i64 (0))))⟩, ⟨(some 64), none, (.mv (.tmp 63))⟩, ⟨(some 65), (some (64, true)), (.mv (.tmp 6))⟩, ⟨(some 66), (some (64, true)), (.bin .eql (.tmp 65) (.const (.int .i64 (8))))⟩, ⟨(some 67), none, (.pick (.tmp 64) (.tmp 66) (.const (.bool false)))⟩, ⟨(some 68), none, (.mv (.tmp 67))⟩, ⟨(some 69), (some (68, true)), (.callf (.func 55) [])⟩, ⟨(some 70), none, (.pick (.tmp 68) (.tmp 69) (.const (.bool false)))⟩, ⟨(some 4), none, (.mv (.tmp 70))⟩]) .ret) .skip)) (.seq (.reg [⟨(some 72), none, (.mv (.tmp 0))⟩, ⟨(some 73), none, (.mv (.tmp 5))⟩, ⟨(some 74), none, (.callf (.func 64) [(.tmp 72), (.tmp 73)])⟩, ⟨(some 71), none, (.mv (.tmp 74))⟩, ⟨(some 75), none, (.ext (.tmp 71) 0)⟩, ⟨(some 76), none, (.ext (.tmp 71) 1)⟩, ⟨(some 10), none, (.mv (.tmp 75))⟩, ⟨(some 11), none, (.mv (.tmp 76))⟩]) (.seq (.reg [⟨(some 77), none, (.mv (.tmp 5))⟩, ⟨(some 78), none, (.mv (.tmp 0))⟩, ⟨(some 79), none, (.callf (.func 62) [(.tmp 78)])⟩, ⟨(some 80), none, (.mv (.tmp 1))⟩, ⟨(some 81), none, (.callf (.func 31) [(.tmp 80)])⟩, ⟨(some 82), none, (.callf (.func 65) [(.tmp 79), (.tmp 81)])⟩, ⟨(some 83), none, (.callf (.func 42) [(.tmp 77), (.tmp 82)])⟩, ⟨(some 84), none, (.mv (.tmp 83))⟩, ⟨(some 85), (some (84, true)), (.mv (.tmp 6))⟩, ⟨(some 86), (some (84, true)), (.bin .eql (.tmp 85) (.const (.int .i64 (0))))⟩, ⟨(some 87), none, (.pick (.tmp 84) (.tmp 86) (.const (.bool false)))⟩, ⟨(some 88), none, (.mv (.tmp 87))⟩, ⟨(some 89), (some (88, true)), (.mv (.tmp 11))⟩, ⟨(some 90), (some (88, true)), (.bin .eql (.tmp 89) (.const (.int .i64 (0))))⟩, ⟨(some 91), none, (.pick (.tmp 88) (.tmp 90) (.const (.bool false)))⟩, ⟨(some 92), none, (.mv (.tmp 91))⟩, ⟨(some 93), (some (92, true)), (.mv (.tmp 10))⟩, ⟨(some 94), (some (92, true)), (.mv (.tmp 1))⟩, ⟨(some 95), (some (92, true)), (.callf (.func 51) [(.tmp 93), (.tmp 94)])⟩, ⟨(some 96), none, (.pick (.tmp 92) (.tmp 95) (.const (.bool false)))⟩, ⟨(some 97), none, (.mv (.tmp 96))⟩, ⟨(some 98), (some (97, true)), (.callf (.func 55) [])⟩, ⟨(some 99), none, (.pick (.tmp 97) (.tmp 98) (.const (.bool false)))⟩, ⟨(some 4), none, (.mv (.tmp 99))⟩]) .ret))))))))
theorem cc12 : ccode Try.prog [] (Try.f12.body.getD .skip) = some c12 := by kernel_rfl
theorem body12 : Try.f12.body = some (Try.f12.body.getD .skip) := rfl

theorem linSolves_C (m : MM) (b : VV) (hl : (osl m).length ≤ 9223372036854775807) : PureC Try.prog 12 [aM m, aV b] (.ret (aB true)) := by
  have hs := lsides_C m hl
  have hf := lfew_C m
  have hfb := few_C b
  have haw := awake6_C
  unfold lsidesV at hs
  by_cases c1 : fewM m = true
  case neg =>
    rw [show fewM m = false by simpa using c1] at hf
    refine pureC_of (rs := [(RV.tmp 4)]) Try.func12 (fun a w => Try.call12 a w) body12 cc12 (by kernel_rfl) ?_
    rw [Try.ntmps12]
    simp only [frs, Nat.reduceAdd, Nat.reduceSub]
    repeat (first | (with_reducible first | refine Way.imp ?_ | refine blk_o rfl ?_) | ((with_reducible refine WayR.imp (fun K hK => ?_)); simp (disch := first | omega | (simp only [dls]; omega)) only [std, reduceIte, reduceCtorEq, Int.reduceToNat, Nat.reduceAdd, Nat.reduceSub, Nat.reduceMul, Int.reduceAdd, Int.reduceSub, Int.reduceMul, Int.reduceNeg, fU, constAV_arr]; subst hK) | refine zcA (hf) rfl rfl rfl ?_ | refine zcA (haw) rfl rfl rfl ?_)
    exact ⟨_, rfl, rfl⟩
  rw [c1] at hf
  by_cases c2 : fewB b = true
  case neg =>
    rw [show fewB b = false by simpa using c2] at hfb
    refine pureC_of (rs := [(RV.tmp 4)]) Try.func12 (fun a w => Try.call12 a w) body12 cc12 (by kernel_rfl) ?_
    rw [Try.ntmps12]
    simp only [frs, Nat.reduceAdd, Nat.reduceSub]
    repeat (first | (with_reducible first | refine Way.imp ?_ | refine blk_o rfl ?_) | ((with_reducible refine WayR.imp (fun K hK => ?_)); simp (disch := first | omega | (simp only [dls]; omega)) only [std, reduceIte, reduceCtorEq, Int.reduceToNat, Nat.reduceAdd, Nat.reduceSub, Nat.reduceMul, Int.reduceAdd, Int.reduceSub, Int.reduceMul, Int.reduceNeg, fU, constAV_arr]; subst hK) | refine zcA (hf) rfl rfl rfl ?_ | (apply call_any_g (hfb) rfl; (case hg => simp (disch := first | omega | (simp only [dls]; omega)) only [std, reduceIte, reduceCtorEq, Int.reduceToNat, Nat.reduceAdd, Nat.reduceSub, Nat.reduceMul, Int.reduceAdd, Int.reduceSub, Int.reduceMul, Int.reduceNeg, fU, constAV_arr]); (case hcl => (simp only [evs, St.ev, constAV, evl]; (repeat (first | exact closeAVs_nil | (apply closeAVs_cons; (first | (refine close_own3 rfl (by decide)) | (refine close_ownO rfl (by decide) ?_; assumption) | rfl)))); done)); (case hu => rfl)) | refine zcA (haw) rfl rfl rfl ?_)
    exact ⟨_, rfl, rfl⟩
  rw [c2] at hfb
  have hmf := fewM_fits c1
  have hm1 := fewM_len c1
  have hbf := fewB_fits c2
  have hb8 := hbf.1
  by_cases c3 : rectTo m (osl m).length = true
  case neg =>
    rw [if_neg c3] at hs
    have hno : okM m = false := by
      cases h : okM m with
      | false => rfl
      | true => exact (c3 (ok_rect h)).elim
    have hsv := solve_size m b (by omega) (by omega) (.inl hno)
    refine pureC_of (rs := [(RV.tmp 4)]) Try.func12 (fun a w => Try.call12 a w) body12 cc12 (by kernel_rfl) ?_
    rw [Try.ntmps12]
    simp only [frs, Nat.reduceAdd, Nat.reduceSub]
    repeat (first | (with_reducible first | refine Way.imp ?_ | refine blk_o rfl ?_) | ((with_reducible refine WayR.imp (fun K hK => ?_)); simp (disch := first | omega | (simp only [dls]; omega)) only [std, reduceIte, reduceCtorEq, Int.reduceToNat, Nat.reduceAdd, Nat.reduceSub, Nat.reduceMul, Int.reduceAdd, Int.reduceSub, Int.reduceMul, Int.reduceNeg, fU, constAV_arr]; subst hK) | refine zcA (hf) rfl rfl rfl ?_ | (apply call_any_g (hfb) rfl; (case hg => simp (disch := first | omega | (simp only [dls]; omega)) only [std, reduceIte, reduceCtorEq, Int.reduceToNat, Nat.reduceAdd, Nat.reduceSub, Nat.reduceMul, Int.reduceAdd, Int.reduceSub, Int.reduceMul, Int.reduceNeg, fU, constAV_arr]); (case hcl => (simp only [evs, St.ev, constAV, evl]; (repeat (first | exact closeAVs_nil | (apply closeAVs_cons; (first | (refine close_own3 rfl (by decide)) | (refine close_ownO rfl (by decide) ?_; assumption) | rfl)))); done)); (case hu => rfl)) | refine zcA (hsv) rfl rfl rfl ?_ | refine zcA (hs) rfl rfl rfl ?_ | (apply call_any_g (haw) rfl; (case hg => simp (disch := first | omega | (simp only [dls]; omega)) only [std, reduceIte, reduceCtorEq, Int.reduceToNat, Nat.reduceAdd, Nat.reduceSub, Nat.reduceMul, Int.reduceAdd, Int.reduceSub, Int.reduceMul, Int.reduceNeg, fU, constAV_arr]); (case hcl => (simp only [evs, St.ev, constAV, evl]; (repeat (first | exact closeAVs_nil | (apply closeAVs_cons; (first | (refine close_own3 rfl (by decide)) | (refine close_ownO rfl (by decide) ?_; assumption) | rfl)))); done)); (case hu => rfl)))
    exact ⟨_, rfl, rfl⟩
  rw [if_pos c3] at hs
  have hok := ok_of hmf (by decide) c3
  by_cases c4 : cols m = (osl m).length
  case neg =>
    have hsv := solve_size m b (by omega) (by omega) (.inr (.inl (fun e => c4 e.symm)))
    generalize cols m = W at *
    refine pureC_of (rs := [(RV.tmp 4)]) Try.func12 (fun a w => Try.call12 a w) body12 cc12 (by kernel_rfl) ?_
    rw [Try.ntmps12]
    simp only [frs, Nat.reduceAdd, Nat.reduceSub]
    repeat (first | (with_reducible first | refine Way.imp ?_ | refine blk_o rfl ?_) | ((with_reducible refine WayR.imp (fun K hK => ?_)); simp (disch := first | omega | (simp only [dls]; omega)) only [std, reduceIte, reduceCtorEq, Int.reduceToNat, Nat.reduceAdd, Nat.reduceSub, Nat.reduceMul, Int.reduceAdd, Int.reduceSub, Int.reduceMul, Int.reduceNeg, fU, constAV_arr]; subst hK) | refine zcA (hf) rfl rfl rfl ?_ | (apply call_any_g (hfb) rfl; (case hg => simp (disch := first | omega | (simp only [dls]; omega)) only [std, reduceIte, reduceCtorEq, Int.reduceToNat, Nat.reduceAdd, Nat.reduceSub, Nat.reduceMul, Int.reduceAdd, Int.reduceSub, Int.reduceMul, Int.reduceNeg, fU, constAV_arr]); (case hcl => (simp only [evs, St.ev, constAV, evl]; (repeat (first | exact closeAVs_nil | (apply closeAVs_cons; (first | (refine close_own3 rfl (by decide)) | (refine close_ownO rfl (by decide) ?_; assumption) | rfl)))); done)); (case hu => rfl)) | refine zcA (hsv) rfl rfl rfl ?_ | refine zcA (hs) rfl rfl rfl ?_ | (apply call_any_g (haw) rfl; (case hg => simp (disch := first | omega | (simp only [dls]; omega)) only [std, reduceIte, reduceCtorEq, Int.reduceToNat, Nat.reduceAdd, Nat.reduceSub, Nat.reduceMul, Int.reduceAdd, Int.reduceSub, Int.reduceMul, Int.reduceNeg, fU, constAV_arr]); (case hcl => (simp only [evs, St.ev, constAV, evl]; (repeat (first | exact closeAVs_nil | (apply closeAVs_cons; (first | (refine close_own3 rfl (by decide)) | (refine close_ownO rfl (by decide) ?_; assumption) | rfl)))); done)); (case hu => rfl)))
    exact ⟨_, rfl, rfl⟩
  rw [c4] at hs
  by_cases c5 : (osl b).length = (osl m).length
  case neg =>
    have hsv := solve_size m b (by omega) (by omega) (.inr (.inr (.inl c5)))
    refine pureC_of (rs := [(RV.tmp 4)]) Try.func12 (fun a w => Try.call12 a w) body12 cc12 (by kernel_rfl) ?_
    rw [Try.ntmps12]
    simp only [frs, Nat.reduceAdd, Nat.reduceSub]
    repeat (first | (with_reducible first | refine Way.imp ?_ | refine blk_o rfl ?_) | ((with_reducible refine WayR.imp (fun K hK => ?_)); simp (disch := first | omega | (simp only [dls]; omega)) only [std, reduceIte, reduceCtorEq, Int.reduceToNat, Nat.reduceAdd, Nat.reduceSub, Nat.reduceMul, Int.reduceAdd, Int.reduceSub, Int.reduceMul, Int.reduceNeg, fU, constAV_arr]; subst hK) | refine zcA (hf) rfl rfl rfl ?_ | (apply call_any_g (hfb) rfl; (case hg => simp (disch := first | omega | (simp only [dls]; omega)) only [std, reduceIte, reduceCtorEq, Int.reduceToNat, Nat.reduceAdd, Nat.reduceSub, Nat.reduceMul, Int.reduceAdd, Int.reduceSub, Int.reduceMul, Int.reduceNeg, fU, constAV_arr]); (case hcl => (simp only [evs, St.ev, constAV, evl]; (repeat (first | exact closeAVs_nil | (apply closeAVs_cons; (first | (refine close_own3 rfl (by decide)) | (refine close_ownO rfl (by decide) ?_; assumption) | rfl)))); done)); (case hu => rfl)) | refine zcA (hsv) rfl rfl rfl ?_ | refine zcA (hs) rfl rfl rfl ?_ | (apply call_any_g (haw) rfl; (case hg => simp (disch := first | omega | (simp only [dls]; omega)) only [std, reduceIte, reduceCtorEq, Int.reduceToNat, Nat.reduceAdd, Nat.reduceSub, Nat.reduceMul, Int.reduceAdd, Int.reduceSub, Int.reduceMul, Int.reduceNeg, fU, constAV_arr]); (case hcl => (simp only [evs, St.ev, constAV, evl]; (repeat (first | exact closeAVs_nil | (apply closeAVs_cons; (first | (refine close_own3 rfl (by decide)) | (refine close_ownO rfl (by decide) ?_; assumption) | rfl)))); done)); (case hu => rfl)))
    exact ⟨_, rfl, rfl⟩
  have hsv := solve_full m b 8 3 hmf hbf (by decide) (by decide) (by decide) hok c4 c5 (by omega) (by have := pow4_4 hm1; omega)
  have hrows := lrows_C m 8 3 hmf (by decide) (by decide)
  have hdet := det_few c1 c3 c4
  have hzb := decZ_zb (detL (osl m).length (qM m))
  have hiff := solveOk_iff m b c3 c4 hm1
  unfold solveV at hsv
  by_cases c6 : detL (osl m).length (qM m) = 0
  · rw [if_neg (fun h => hiff.1 h c6)] at hsv
    rw [decide_eq_true c6] at hzb
    clear hiff
    generalize rowO (rowsD m) = DD at *
    generalize detL (osl m).length (qM m) = dt at *
    refine pureC_of (rs := [(RV.tmp 4)]) Try.func12 (fun a w => Try.call12 a w) body12 cc12 (by kernel_rfl) ?_
    rw [Try.ntmps12]
    simp only [frs, Nat.reduceAdd, Nat.reduceSub]
    repeat (first | (with_reducible first | refine Way.imp ?_ | refine blk_o rfl ?_) | ((with_reducible refine WayR.imp (fun K hK => ?_)); simp (disch := first | omega | (simp only [dls]; omega)) only [std, reduceIte, reduceCtorEq, Int.reduceToNat, Nat.reduceAdd, Nat.reduceSub, Nat.reduceMul, Int.reduceAdd, Int.reduceSub, Int.reduceMul, Int.reduceNeg, fU, constAV_arr, c5, hzb]; subst hK) | refine zcA (hf) rfl rfl rfl ?_ | (apply call_any_g (hfb) rfl; (case hg => simp (disch := first | omega | (simp only [dls]; omega)) only [std, reduceIte, reduceCtorEq, Int.reduceToNat, Nat.reduceAdd, Nat.reduceSub, Nat.reduceMul, Int.reduceAdd, Int.reduceSub, Int.reduceMul, Int.reduceNeg, fU, constAV_arr, c5, hzb]); (case hcl => (simp only [evs, St.ev, constAV, evl]; (repeat (first | exact closeAVs_nil | (apply closeAVs_cons; (first | (refine close_own3 rfl (by decide)) | (refine close_ownO rfl (by decide) ?_; assumption) | rfl)))); done)); (case hu => rfl)) | refine zcA (hsv) rfl rfl rfl ?_ | refine zcA (hs) rfl rfl rfl ?_ | refine zcA (hrows) rfl rfl rfl ?_ | refine zcA (hdet) rfl rfl rfl ?_ | (apply call_any_g (haw) rfl; (case hg => simp (disch := first | omega | (simp only [dls]; omega)) only [std, reduceIte, reduceCtorEq, Int.reduceToNat, Nat.reduceAdd, Nat.reduceSub, Nat.reduceMul, Int.reduceAdd, Int.reduceSub, Int.reduceMul, Int.reduceNeg, fU, constAV_arr, c5, hzb]); (case hcl => (simp only [evs, St.ev, constAV, evl]; (repeat (first | exact closeAVs_nil | (apply closeAVs_cons; (first | (refine close_own3 rfl (by decide)) | (refine close_ownO rfl (by decide) ?_; assumption) | rfl)))); done)); (case hu => rfl)))
    exact ⟨_, rfl, rfl⟩
  · rw [if_pos (hiff.2 c6)] at hsv
    rw [decide_eq_false c6] at hzb
    have hqf := solveQ_fits hmf hbf c3 c4 hm1 c5
    have hql := solveQ_len m b c3 c4
    have hxf : FitsV (rowO ((solveQ m b).map rawQ)) 8 1023 := fits_rw (by omega) hqf
    have hmf2 : FitsM m 8 1023 := ⟨hmf.1, fun v hv => (hmf.2 v hv).monoL (by decide)⟩
    have hap := apply_yes m (rowO ((solveQ m b).map rawQ)) 8 1023 hmf2 hxf (by decide) (by decide) (by decide) hok (.inr (by rw [len_rw, hql, c4]))
    have hyf := fits_apply hmf2 hxf (by decide)
    have hsm := vsame_C (rowO ((applyQ m (rowO ((solveQ m b).map rawQ))).map rawQ)) b 8 (8 * (2 * 1023 + 1) + 1) hyf (hbf.monoL (by decide)) (by decide) (by decide)
    rw [solve_same c3 c4 hm1 c5 c6] at hsm
    have hrow := row_C b 8 3 hbf (by decide) (by decide)
    have hwf := wf_qM hmf hok (by decide)
    rw [c4] at hwf
    have hB : detB 3 (osl m).length ≤ 1000000 := by
      have : (osl m).length = 0 ∨ (osl m).length = 1 ∨ (osl m).length = 2 ∨ (osl m).length = 3 ∨ (osl m).length = 4 := by omega
      rcases this with h | h | h | h | h <;> rw [h] <;> decide
    have hds := dsolve_C (rowO (rowsD m)) (rowO (rowD b)) (osl m).length 3 (by rw [qD_rowsD]; exact hwf) (fitsD_rowD hbf (by decide)).2 (by rw [osl_rowO, rowD_len, c5]) (by omega) (by decide) hB (by rw [qD_rowsD]; exact c6)
    rw [qD_rowsD, osl_rowO, sol_eq c3 c4 hm1 c6] at hds
    have hrs := rows_C (solveQ m b) (by omega) (fun q hq => (hqf q hq).mono (by decide))
    clear hiff hqf hxf hyf hwf hql
    generalize rowO (rowsD m) = DD at *
    generalize rowO (rowD b) = bd at *
    generalize rowO ((applyQ m (rowO ((solveQ m b).map rawQ))).map rawQ) = y at *
    generalize rowO ((solveQ m b).map rawQ) = x at *
    generalize rowO (solveQ m b) = xd at *
    generalize detL (osl m).length (qM m) = dt at *
    refine pureC_of (rs := [(RV.tmp 4)]) Try.func12 (fun a w => Try.call12 a w) body12 cc12 (by kernel_rfl) ?_
    rw [Try.ntmps12]
    simp only [frs, Nat.reduceAdd, Nat.reduceSub]
    repeat (first | (with_reducible first | refine Way.imp ?_ | refine blk_o rfl ?_) | ((with_reducible refine WayR.imp (fun K hK => ?_)); simp (disch := first | omega | (simp only [dls]; omega)) only [std, reduceIte, reduceCtorEq, Int.reduceToNat, Nat.reduceAdd, Nat.reduceSub, Nat.reduceMul, Int.reduceAdd, Int.reduceSub, Int.reduceMul, Int.reduceNeg, fU, constAV_arr, c5, hzb]; subst hK) | refine zcA (hf) rfl rfl rfl ?_ | (apply call_any_g (hfb) rfl; (case hg => simp (disch := first | omega | (simp only [dls]; omega)) only [std, reduceIte, reduceCtorEq, Int.reduceToNat, Nat.reduceAdd, Nat.reduceSub, Nat.reduceMul, Int.reduceAdd, Int.reduceSub, Int.reduceMul, Int.reduceNeg, fU, constAV_arr, c5, hzb]); (case hcl => (simp only [evs, St.ev, constAV, evl]; (repeat (first | exact closeAVs_nil | (apply closeAVs_cons; (first | (refine close_own3 rfl (by decide)) | (refine close_ownO rfl (by decide) ?_; assumption) | rfl)))); done)); (case hu => rfl)) | refine zcA (hsv) rfl rfl rfl ?_ | refine zcA (hs) rfl rfl rfl ?_ | refine zcA (hrows) rfl rfl rfl ?_ | refine zcA (hdet) rfl rfl rfl ?_ | refine zcA (hap) rfl rfl rfl ?_ | refine zcA (hrow) rfl rfl rfl ?_ | refine zcA (hds) rfl rfl rfl ?_ | refine zcA (hrs) rfl rfl rfl ?_ | (apply call_any_g (hsm) rfl; (case hg => simp (disch := first | omega | (simp only [dls]; omega)) only [std, reduceIte, reduceCtorEq, Int.reduceToNat, Nat.reduceAdd, Nat.reduceSub, Nat.reduceMul, Int.reduceAdd, Int.reduceSub, Int.reduceMul, Int.reduceNeg, fU, constAV_arr, c5, hzb]); (case hcl => (simp only [evs, St.ev, constAV, evl]; (repeat (first | exact closeAVs_nil | (apply closeAVs_cons; (first | (refine close_own3 rfl (by decide)) | (refine close_ownO rfl (by decide) ?_; assumption) | rfl)))); done)); (case hu => rfl)) | (apply call_any_g (haw) rfl; (case hg => simp (disch := first | omega | (simp only [dls]; omega)) only [std, reduceIte, reduceCtorEq, Int.reduceToNat, Nat.reduceAdd, Nat.reduceSub, Nat.reduceMul, Int.reduceAdd, Int.reduceSub, Int.reduceMul, Int.reduceNeg, fU, constAV_arr, c5, hzb]); (case hcl => (simp only [evs, St.ev, constAV, evl]; (repeat (first | exact closeAVs_nil | (apply closeAVs_cons; (first | (refine close_own3 rfl (by decide)) | (refine close_ownO rfl (by decide) ?_; assumption) | rfl)))); done)); (case hu => rfl)))
    exact ⟨_, rfl, rfl⟩

end Go.Proofs.Ytdhkdnmefeeclaa
