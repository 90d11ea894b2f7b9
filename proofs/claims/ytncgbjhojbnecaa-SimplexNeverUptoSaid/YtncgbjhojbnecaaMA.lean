/- Matrices as closed data; offcutlaw06.Few. -/
import Derived.Test.YtncgbjhojbnecaaA5
import Derived.Test.YtncgbjhojbnecaaB0
import Derived.Test.YtncgbjhojbnecaaVK
set_option linter.unusedSimpArgs false
set_option linter.unusedVariables false
set_option linter.unnecessarySimpa false
set_option maxRecDepth 100000
set_option maxHeartbeats 4000000
namespace Go.Proofs.Ytncgbjhojbnecaa
open Go Go.Am Go.Proofs Go.RowKit Go.Off
open Nat renaming reduceAdd -> nA,reduceSub -> nS,reduceMul -> nM,reduceBEq -> nB
open Int renaming reduceToNat -> iT,reduceAdd -> iA,reduceSub -> iS,reduceMul -> iM,reduceNeg -> iN
abbrev MM:=Option (List VV)
def fM (v:VV):List CV:=[vr v]
abbrev aM (m:MM):AV:=.one (.c (encSl 1 fM m))
def mAt (m:MM) (i:Nat):VV:=(osl m).getD i none
theorem mAt_in {m:MM} {i:Nat} (h:i < (osl m).length):mAt m i = (osl m)[i]:=by
 unfold mAt;rw [List.getD_eq_getElem?_getD,List.getElem?_eq_getElem h];rfl
def FitsM (m:MM) (n L:Nat):Prop:=(osl m).length <= n /\ ∀ v ∈ osl m,FitsV v n L
theorem fitsQ_one (L:Nat) (hL:1 <= L):FitsQ 1 L:=by
 refine ⟨?_,?_⟩
 ·rw [show ((1:Rat).num.natAbs) = 1 from rfl];exact (by rw [len1];exact hL)
 ·rw [show ((1:Rat).den) = 1 from rfl];exact (by rw [len1];exact hL)
def fewMTo (m:MM) (k:Nat):Bool:=(List.range k).all fun i=>fewB (mAt m i)
def fewM (m:MM):Bool:=fewMTo m (min (osl m).length 5) && decide ((osl m).length <= 4)
theorem fewMTo_succ (m:MM) (k:Nat):fewMTo m (k + 1) = (fewMTo m k && fewB (mAt m k)):=by
 unfold fewMTo;rw [List.range_succ,List.all_append];simp
abbrev c34_k1:CC:=(.seq (.reg [⟨some 20,none,.mv (.tmp 0)⟩,⟨some 21,none,.len false (.tmp 20)⟩,⟨some 22,none,.bin .leq (.tmp 21) (.const (.int .i64 (4)))⟩,⟨some 2,none,.mv (.tmp 22)⟩]) .ret)
abbrev c34_b1:CC:=(.seq (.seq (.reg [⟨some 4,none,.mv (.tmp 3)⟩,⟨some 5,none,.mv (.tmp 0)⟩,⟨some 6,none,.len false (.tmp 5)⟩,⟨some 7,none,.bin .lss (.tmp 4) (.tmp 6)⟩,⟨some 8,none,.mv (.tmp 7)⟩,⟨some 9,(some (8,true)),.mv (.tmp 3)⟩,⟨some 10,(some (8,true)),.bin .leq (.tmp 9) (.const (.int .i64 (4)))⟩,⟨some 11,none,.pick (.tmp 8) (.tmp 10) (.const (.bool false))⟩]) (.cond (.tmp 11) .skip (.exit 0))) (.seq (.block 1 (.seq (.reg [⟨some 14,none,.mv (.tmp 0)⟩,⟨some 15,none,.mv (.tmp 3)⟩,⟨some 16,none,.iaddr 1 none (.tmp 14) (.tmp 15)⟩,⟨some 17,none,.load 1 false (.tmp 16)⟩,⟨some 18,none,.callf (.func 35) [(.tmp 17)]⟩,⟨some 19,none,.un .not (.tmp 18)⟩]) (.cond (.tmp 19) (.seq (.reg [⟨some 2,none,.mv (.const (.bool false))⟩]) .ret) .skip))) (.reg [⟨some 12,none,.mv (.tmp 3)⟩,⟨some 13,none,.bin .add (.tmp 12) (.const (.int .i64 (1)))⟩,⟨some 3,none,.mv (.tmp 13)⟩])))
abbrev c34:CC:=(.seq (.reg [⟨some 2,none,.mv (.const (.bool false))⟩]) (.seq (.seq (.reg [⟨some 3,none,.mv (.const (.int .i64 (0)))⟩]) (.block 0 (.loop c34_b1))) c34_k1))
theorem cc34:ccode Try.prog [] (Try.f34.body.getD .skip) = some c34:=by kernel_rfl
theorem body34:Try.f34.body = some (Try.f34.body.getD .skip):=rfl
theorem lfew_C (m:MM):PureC Try.prog 34 [aM m] (.ret (aB (fewM m))):=by
 refine pureC_of (rs:=[(RV.tmp 2)]) Try.func34 (fun a w=>Try.call34 a w) body34 cc34 (by kernel_rfl) ?_
 rw [Try.ntmps34]
 simp only [frs,nA,nS]
 repeat (first | (with_reducible first | refine Way.imp ?_ | refine blk_o rfl ?_) | ((with_reducible refine WayR.imp (fun K hK=>?_));simp (disch:=first | omega | (simp only [dls];omega)) only [std,reduceIte,reduceCtorEq,iT,nA,nS,nM,iA,iS,iM,iN,fU];subst hK))
 refine awp_loop (fun (zz:Nat)=>⟨(aM m :: .junk :: .junk :: aI zz :: .junk :: .junk :: .junk :: .junk :: .junk :: .junk :: .junk :: .junk :: .junk :: .junk :: .junk :: .junk :: .junk :: .junk :: .junk :: .junk :: .junk :: .junk :: .junk :: []),[]⟩) (fun (zz:Nat)=>zz <= min (osl m).length 5 /\ fewMTo m zz = true) (fun (zz:Nat)=>5 - zz) (0) ?hI1 (Fgt.head (Nat.le_refl _) [true,false,false,true] ?hT1 ?hH1) ?hB1
 case hT1=>first | (simp (disch:=omega) only [hds,liveT,cleanAV,cleanCell,clean1,cleanBlk,reduceIte,iS,iA,iN];done) | rfl
 case hH1=>first | (simp (disch:=omega) only [hds,liveT,cleanAV,cleanCell,clean1,cleanBlk,reduceIte,iS,iA,iN];done) | rfl
 ·exact ⟨by omega,rfl⟩
 rintro i ⟨hi,hr⟩
 by_cases him:i = min (osl m).length 5
 ·have hv:fewM m = decide ((osl m).length <= 4):=by unfold fewM;rw [<- him,hr,Bool.true_and]
  rw [hv]
  by_cases h5:(osl m).length <= 4
  ·have hil:i = (osl m).length:=by omega
   rw [decide_eq_true h5]
   repeat (first | (with_reducible first | refine Way.imp ?_ | refine blk_o rfl ?_) | ((with_reducible refine WayR.imp (fun K hK=>?_));simp (disch:=first | omega | (simp only [dls];omega)) only [std,reduceIte,reduceCtorEq,iT,nA,nS,nM,iA,iS,iM,iN,fU];subst hK))
   exact ⟨_,rfl,rfl⟩
  ·have hi5:i = 5:=by omega
   have hi6:¬ ((i:Int) <= 4):=by omega
   rw [decide_eq_false h5]
   by_cases h6:(osl m).length = 5
   ·have hnl:¬ i < (osl m).length:=by omega
    repeat (first | (with_reducible first | refine Way.imp ?_ | refine blk_o rfl ?_) | ((with_reducible refine WayR.imp (fun K hK=>?_));simp (disch:=first | omega | (simp only [dls];omega)) only [std,reduceIte,reduceCtorEq,iT,nA,nS,nM,iA,iS,iM,iN,fU];subst hK))
    exact ⟨_,rfl,rfl⟩
   ·have hil:i < (osl m).length:=by omega
    repeat (first | (with_reducible first | refine Way.imp ?_ | refine blk_o rfl ?_) | ((with_reducible refine WayR.imp (fun K hK=>?_));simp (disch:=first | omega | (simp only [dls];omega)) only [std,reduceIte,reduceCtorEq,iT,nA,nS,nM,iA,iS,iM,iN,fU];subst hK))
    exact ⟨_,rfl,rfl⟩
 ·have hlt:i < (osl m).length:=by omega
  have hi4:(i:Int) <= 4:=by omega
  have hfw:=few_C (osl m)[i]
  cases hf:fewB (osl m)[i] with
  | true =>
   rw [hf] at hfw
   repeat (first | (with_reducible first | refine Way.imp ?_ | refine blk_o rfl ?_) | ((with_reducible refine WayR.imp (fun K hK=>?_));simp (disch:=first | omega | (simp only [dls];omega)) only [std,reduceIte,reduceCtorEq,iT,nA,nS,nM,iA,iS,iM,iN,fU,fM];subst hK) | refine zcA (hfw) rfl rfl rfl ?_)
   refine ⟨(i + 1),?hI2,?hM2,Fgt.head (Nat.le_refl _) [true,false,false,true] ?hT2 ?hH2⟩
   case hT2=>first | (simp (disch:=omega) only [hds,liveT,cleanAV,cleanCell,clean1,cleanBlk,reduceIte,iS,iA,iN];done) | rfl
   case hH2=>first | (simp (disch:=omega) only [hds,liveT,cleanAV,cleanCell,clean1,cleanBlk,reduceIte,iS,iA,iN];done) | rfl
   ·refine ⟨by omega,?_⟩
    rw [fewMTo_succ,hr,mAt_in hlt,hf]
    rfl
   ·omega
  | false =>
   rw [hf] at hfw
   have hv:fewM m = false:=by
    have:fewMTo m (min (osl m).length 5) = false:=by
     rw [Bool.eq_false_iff]
     intro h
     have:=List.all_eq_true.1 h i (List.mem_range.2 (by omega))
     rw [mAt_in hlt,hf] at this
     cases this
    unfold fewM
    rw [this,Bool.false_and]
   rw [hv]
   repeat (first | (with_reducible first | refine Way.imp ?_ | refine blk_o rfl ?_) | ((with_reducible refine WayR.imp (fun K hK=>?_));simp (disch:=first | omega | (simp only [dls];omega)) only [std,reduceIte,reduceCtorEq,iT,nA,nS,nM,iA,iS,iM,iN,fU,fM];subst hK) | refine zcA (hfw) rfl rfl rfl ?_)
   exact ⟨_,rfl,rfl⟩
theorem FitsV.monoL {a:VV} {n L K:Nat} (h:FitsV a n L) (hk:L <= K):FitsV a n K:=⟨h.1,fun r hr=>(h.2 r hr).mono hk⟩
theorem fewM_len {m:MM} (h:fewM m = true):(osl m).length <= 4:=by
 unfold fewM at h
 simp only [Bool.and_eq_true,decide_eq_true_eq] at h
 exact h.2
theorem fewM_fits {m:MM} (h:fewM m = true):FitsM m 8 3:=by
 have hl:=fewM_len h
 refine ⟨by omega,fun v hv=>?_⟩
 unfold fewM at h
 simp only [Bool.and_eq_true,decide_eq_true_eq] at h
 obtain ⟨i,hi,rfl⟩:=List.mem_iff_getElem.1 hv
 have:=List.all_eq_true.1 h.1 i (List.mem_range.2 (by omega))
 rw [mAt_in hi] at this
 exact fewB_fits this
theorem FitsM.at {m:MM} {n L:Nat} (h:FitsM m n L) (i:Nat):FitsV (mAt m i) n L:=by
 by_cases hi:i < (osl m).length
 ·rw [mAt_in hi];exact h.2 _ (List.getElem_mem hi)
 ·have:mAt m i = none:=by unfold mAt;rw [List.getD_eq_getElem?_getD,List.getElem?_eq_none (by omega)];rfl
  rw [this]
  exact ⟨Nat.zero_le _,fun r hr=>absurd hr (by simp [osl])⟩
theorem qAt_rw (l:List Rat) (i:Nat):qAt (rowO (l.map rawQ)) i = l.getD i 0:=by
 unfold qAt rAt
 rw [osl_rowO]
 simp only [List.getD_eq_getElem?_getD,List.getElem?_map]
 cases l[i]? with
 | none=>exact zR_val
 | some q=>exact rawQ_val q
theorem len_rw (l:List Rat):(osl (rowO (l.map rawQ))).length = l.length:=by rw [osl_rowO,List.length_map]
theorem fits_rw {l:List Rat} {n L:Nat} (hn:l.length <= n) (h:∀ q ∈ l,FitsQ q L):FitsV (rowO (l.map rawQ)) n L:=by
 refine ⟨by rw [len_rw];exact hn,fun x hx=>?_⟩
 rw [osl_rowO] at hx
 obtain ⟨q,hq,rfl⟩:=List.mem_map.1 hx
 exact fits_rawQ (h q hq)
theorem fits_dot {a b:VV} {n L:Nat} (ha:FitsV a n L) (hb:FitsV b n L) (hL:1 <= L):FitsQ (dotV a b) (n * (2 * L + 1) + 1):=by
 have key:∀ k,FitsQ (dotTo a b k) (k * (2 * L + 1) + 1):=fun k=>by
  induction k with
  | zero=>rw [Nat.zero_mul];exact fitsQ_zero _ (by omega)
  | succ k ih =>
   rw [dotTo_succ]
   refine (ih.add1 (((ha.at k).val hL).mul ((hb.at k).val hL))).mono ?_
   rw [Nat.add_mul k 1 (2 * L + 1)];omega
 refine (key (vmin a b)).mono (Nat.add_le_add_right (Nat.mul_le_mul_right _ ?_) _)
 exact Nat.le_trans (Nat.min_le_left _ _) ha.1
theorem dot_sum (a b:VV):dotV a b = sumR (vmin a b) (fun i=>qAt a i * qAt b i):=by
 unfold dotV
 generalize vmin a b = k
 induction k with
 | zero=>rfl
 | succ k ih=>rw [dotTo_succ,ih];rfl
theorem same_of {a b:VV} (h:(osl a).length = (osl b).length) (he:∀ k,k < (osl a).length -> qAt a k = qAt b k):sameQ a b = true:=by
 unfold sameQ
 rw [h,beq_self_eq_true,Bool.true_and]
 unfold sameTo
 rw [List.all_eq_true]
 intro k hk
 rw [List.mem_range] at hk
 rw [he k (by omega)]
 simp
def cols (m:MM):Nat:=(osl (mAt m 0)).length
def rectTo (m:MM) (k:Nat):Bool:=(List.range k).all fun i=>decide ((osl (mAt m i)).length = cols m)
theorem rectTo_succ (m:MM) (k:Nat):rectTo m (k + 1) = (rectTo m k && decide ((osl (mAt m k)).length = cols m)):=by
 unfold rectTo;rw [List.range_succ,List.all_append];simp
theorem rectTo_at {m:MM} {k i:Nat} (h:rectTo m k = true) (hi:i < k):(osl (mAt m i)).length = cols m:=by
 have:=List.all_eq_true.1 h i (List.mem_range.2 hi)
 simpa using this
def okM (m:MM):Bool:=rectTo m (osl m).length && (decide ((osl m).length <= 200) && decide (cols m <= 200))
def sidesV (m:MM):AV:=if okM m then .tup [aI ((osl m).length:Nat),aI (cols m:Nat),aB true] else .tup [aI 0,aI 0,aB false]
abbrev c67_k1:CC:=(.seq (.seq (.reg [⟨some 24,none,.mv (.tmp 0)⟩,⟨some 25,none,.len false (.tmp 24)⟩,⟨some 26,none,.bin .gtr (.tmp 25) (.const (.int .i64 (200)))⟩,⟨some 27,none,.mv (.tmp 26)⟩,⟨some 28,(some (27,false)),.mv (.tmp 0)⟩,⟨some 29,(some (27,false)),.iaddr 1 none (.tmp 28) (.const (.int .i64 (0)))⟩,⟨some 30,(some (27,false)),.load 1 false (.tmp 29)⟩,⟨some 31,(some (27,false)),.len false (.tmp 30)⟩,⟨some 32,(some (27,false)),.bin .gtr (.tmp 31) (.const (.int .i64 (200)))⟩,⟨some 33,none,.pick (.tmp 27) (.const (.bool true)) (.tmp 32)⟩]) (.cond (.tmp 33) (.seq (.reg [⟨some 2,none,.mv (.const (.int .i64 (0)))⟩,⟨some 3,none,.mv (.const (.int .i64 (0)))⟩,⟨some 4,none,.mv (.const (.bool false))⟩]) .ret) .skip)) (.seq (.reg [⟨some 34,none,.mv (.tmp 0)⟩,⟨some 35,none,.len false (.tmp 34)⟩,⟨some 36,none,.mv (.tmp 0)⟩,⟨some 37,none,.iaddr 1 none (.tmp 36) (.const (.int .i64 (0)))⟩,⟨some 38,none,.load 1 false (.tmp 37)⟩,⟨some 39,none,.len false (.tmp 38)⟩,⟨some 2,none,.mv (.tmp 35)⟩,⟨some 3,none,.mv (.tmp 39)⟩,⟨some 4,none,.mv (.const (.bool true))⟩]) .ret))
abbrev c67_b1:CC:=(.seq (.reg [⟨some 13,none,.bin .lss (.tmp 12) (.tmp 11)⟩]) (.seq (.cond (.tmp 13) .skip (.exit 0)) (.seq (.block 1 (.seq (.reg [⟨some 14,none,.iaddr 1 none (.tmp 10) (.tmp 12)⟩,⟨some 15,none,.load 1 false (.tmp 14)⟩,⟨some 6,none,.mv (.tmp 15)⟩]) (.seq (.reg [⟨some 16,none,.mv (.tmp 6)⟩,⟨some 17,none,.len false (.tmp 16)⟩,⟨some 18,none,.mv (.tmp 0)⟩,⟨some 19,none,.iaddr 1 none (.tmp 18) (.const (.int .i64 (0)))⟩,⟨some 20,none,.load 1 false (.tmp 19)⟩,⟨some 21,none,.len false (.tmp 20)⟩,⟨some 22,none,.bin .neq (.tmp 17) (.tmp 21)⟩]) (.cond (.tmp 22) (.seq (.reg [⟨some 2,none,.mv (.const (.int .i64 (0)))⟩,⟨some 3,none,.mv (.const (.int .i64 (0)))⟩,⟨some 4,none,.mv (.const (.bool false))⟩]) .ret) .skip)))) (.reg [⟨some 23,none,.bin .add (.tmp 12) (.const (.int .i64 (1)))⟩,⟨some 12,none,.mv (.tmp 23)⟩]))))
abbrev c67:CC:=(.seq (.reg [⟨some 2,none,.mv (.const (.int .i64 (0)))⟩,⟨some 3,none,.mv (.const (.int .i64 (0)))⟩,⟨some 4,none,.mv (.const (.bool false))⟩]) (.seq (.seq (.reg [⟨some 7,none,.mv (.tmp 0)⟩,⟨some 8,none,.len false (.tmp 7)⟩,⟨some 9,none,.bin .eql (.tmp 8) (.const (.int .i64 (0)))⟩]) (.cond (.tmp 9) (.seq (.reg [⟨some 2,none,.mv (.const (.int .i64 (0)))⟩,⟨some 3,none,.mv (.const (.int .i64 (0)))⟩,⟨some 4,none,.mv (.const (.bool true))⟩]) .ret) .skip)) (.seq (.seq (.reg [⟨some 10,none,.mv (.tmp 0)⟩,⟨some 11,none,.len false (.tmp 10)⟩,⟨some 12,none,.mv (.const (.int .i64 (0)))⟩]) (.block 0 (.loop c67_b1))) c67_k1)))
theorem cc67:ccode Try.prog [] (Try.f67.body.getD .skip) = some c67:=by kernel_rfl
theorem body67:Try.f67.body = some (Try.f67.body.getD .skip):=rfl
theorem sides_C (m:MM) (hm:(osl m).length <= 1000000):PureC Try.prog 67 [aM m] (.ret (sidesV m)):=by
 by_cases h0:(osl m).length = 0
 ·have hc:cols m = 0:=by unfold cols mAt;rw [List.length_eq_zero_iff.1 h0];rfl
  have hv:sidesV m = .tup [aI 0,aI 0,aB true]:=by
   unfold sidesV okM rectTo
   rw [h0,hc]
   rfl
  rw [hv]
  refine pureC_of (rs:=[(RV.tmp 2),(RV.tmp 3),(RV.tmp 4)]) Try.func67 (fun a w=>Try.call67 a w) body67 cc67 (by kernel_rfl) ?_
  rw [Try.ntmps67]
  simp only [frs,nA,nS]
  repeat (first | (with_reducible first | refine Way.imp ?_ | refine blk_o rfl ?_) | ((with_reducible refine WayR.imp (fun K hK=>?_));simp (disch:=first | omega | (simp only [dls];omega)) only [std,reduceIte,reduceCtorEq,iT,nA,nS,nM,iA,iS,iM,iN,fU,h0];subst hK))
  exact ⟨_,rfl,rfl⟩
 ·have h00:0 < (osl m).length:=by omega
  have hc:cols m = (osl (osl m)[0]).length:=by unfold cols;rw [mAt_in h00]
  refine pureC_of (rs:=[(RV.tmp 2),(RV.tmp 3),(RV.tmp 4)]) Try.func67 (fun a w=>Try.call67 a w) body67 cc67 (by kernel_rfl) ?_
  rw [Try.ntmps67]
  simp only [frs,nA,nS]
  repeat (first | (with_reducible first | refine Way.imp ?_ | refine blk_o rfl ?_) | ((with_reducible refine WayR.imp (fun K hK=>?_));simp (disch:=first | omega | (simp only [dls];omega)) only [std,reduceIte,reduceCtorEq,iT,nA,nS,nM,iA,iS,iM,iN,fU];subst hK))
  refine awp_loop (fun (zz:Nat)=>⟨(aM m :: .junk :: .junk :: .junk :: .junk :: .junk :: .junk :: .junk :: .junk :: .junk :: aM m :: aI (osl m).length :: aI zz :: .junk :: .junk :: .junk :: .junk :: .junk :: .junk :: .junk :: .junk :: .junk :: .junk :: .junk :: .junk :: .junk :: .junk :: .junk :: .junk :: .junk :: .junk :: .junk :: .junk :: .junk :: .junk :: .junk :: .junk :: .junk :: .junk :: .junk :: []),[]⟩) (fun (zz:Nat)=>zz <= (osl m).length /\ rectTo m zz = true) (fun (zz:Nat)=>(osl m).length - zz) (0) ?hI1 (Fgt.head (Nat.le_refl _) [true,false,false,false,false,false,false,false,false,false,true,true,true] ?hT1 ?hH1) ?hB1
  case hT1=>first | (simp (disch:=omega) only [hds,liveT,cleanAV,cleanCell,clean1,cleanBlk,reduceIte,iS,iA,iN];done) | rfl
  case hH1=>first | (simp (disch:=omega) only [hds,liveT,cleanAV,cleanCell,clean1,cleanBlk,reduceIte,iS,iA,iN];done) | rfl
  ·exact ⟨by omega,rfl⟩
  rintro i ⟨hi,hr⟩
  by_cases him:i = (osl m).length
  ·rw [him] at hr
   by_cases h1:(osl m).length <= 200
   ·by_cases h2:(osl (osl m)[0]).length <= 200
    ·have hv:sidesV m = .tup [aI ((osl m).length:Nat),aI ((osl (osl m)[0]).length:Nat),aB true]:=by
      unfold sidesV okM
      rw [hr,hc,decide_eq_true h1,decide_eq_true h2]
      rfl
     repeat (first | (with_reducible first | refine Way.imp ?_ | refine blk_o rfl ?_) | ((with_reducible refine WayR.imp (fun K hK=>?_));simp (disch:=first | omega | (simp only [dls];omega)) only [std,reduceIte,reduceCtorEq,iT,nA,nS,nM,iA,iS,iM,iN,fU,fM];subst hK))
     refine ⟨_,rfl,?_⟩
     rw [hv]
     rfl
    ·have hv:sidesV m = .tup [aI 0,aI 0,aB false]:=by
      unfold sidesV okM
      rw [hc,decide_eq_false h2,Bool.and_false,Bool.and_false]
      rfl
     repeat (first | (with_reducible first | refine Way.imp ?_ | refine blk_o rfl ?_) | ((with_reducible refine WayR.imp (fun K hK=>?_));simp (disch:=first | omega | (simp only [dls];omega)) only [std,reduceIte,reduceCtorEq,iT,nA,nS,nM,iA,iS,iM,iN,fU,fM];subst hK))
     refine ⟨_,rfl,?_⟩
     rw [hv]
     rfl
   ·have hv:sidesV m = .tup [aI 0,aI 0,aB false]:=by
     unfold sidesV okM
     rw [decide_eq_false h1,Bool.false_and,Bool.and_false]
     rfl
    repeat (first | (with_reducible first | refine Way.imp ?_ | refine blk_o rfl ?_) | ((with_reducible refine WayR.imp (fun K hK=>?_));simp (disch:=first | omega | (simp only [dls];omega)) only [std,reduceIte,reduceCtorEq,iT,nA,nS,nM,iA,iS,iM,iN,fU,fM];subst hK))
    refine ⟨_,rfl,?_⟩
    rw [hv]
    rfl
  ·have hlt:i < (osl m).length:=by omega
   by_cases he:(osl (osl m)[i]).length = (osl (osl m)[0]).length
   ·repeat (first | (with_reducible first | refine Way.imp ?_ | refine blk_o rfl ?_) | ((with_reducible refine WayR.imp (fun K hK=>?_));simp (disch:=first | omega | (simp only [dls];omega)) only [std,reduceIte,reduceCtorEq,iT,nA,nS,nM,iA,iS,iM,iN,fU,fM,he];subst hK))
    refine ⟨(i + 1),?hI2,?hM2,Fgt.head (Nat.le_refl _) [true,false,false,false,false,false,false,false,false,false,true,true,true] ?hT2 ?hH2⟩
    case hT2=>first | (simp (disch:=omega) only [hds,liveT,cleanAV,cleanCell,clean1,cleanBlk,reduceIte,iS,iA,iN];done) | rfl
    case hH2=>first | (simp (disch:=omega) only [hds,liveT,cleanAV,cleanCell,clean1,cleanBlk,reduceIte,iS,iA,iN];done) | rfl
    ·refine ⟨by omega,?_⟩
     rw [rectTo_succ,hr,mAt_in hlt,hc,he]
     simp
    ·omega
   ·have hv:sidesV m = .tup [aI 0,aI 0,aB false]:=by
     have:rectTo m (osl m).length = false:=by
      cases hq:rectTo m (osl m).length with
      | false=>rfl
      | true=>exact (he (by rw [<- mAt_in hlt,<- hc];exact rectTo_at hq hlt)).elim
     unfold sidesV okM
     rw [this,Bool.false_and]
     rfl
    repeat (first | (with_reducible first | refine Way.imp ?_ | refine blk_o rfl ?_) | ((with_reducible refine WayR.imp (fun K hK=>?_));simp (disch:=first | omega | (simp only [dls];omega)) only [std,reduceIte,reduceCtorEq,iT,nA,nS,nM,iA,iS,iM,iN,fU,fM];subst hK))
    refine ⟨_,rfl,?_⟩
    rw [hv]
    rfl
def qM (m:MM):List (List Rat):=(osl m).map fun v=>(osl v).map fun r=>r.val
def rawV (q:List Rat):VV:=some (q.map rawQ)
def rawM (q:List (List Rat)):MM:=some (q.map rawV)
theorem copyR (a:List RR) (n:Nat) (b:List Rat) (hb:a = b.map rawQ) (hn:b.length = n) :
  List.take (List.replicate n zR).length (encB (fun q=>fR (rawQ q)) b) ++ List.drop b.length (encB fR (List.replicate n zR)) = encB fR a:=by
 rw [List.length_replicate,List.take_of_length_le (by rw [encB_length];omega),List.drop_of_length_le (by rw [encB_length,List.length_replicate];omega),List.append_nil,hb]
 simp [encB]
theorem repM (n:Nat):List.replicate n [Cell.c (.val (.slice none 0 0))] = encB fM (List.replicate n none):=by rw [encB_replicate];rfl
theorem repR (n:Nat):List.replicate n [Cell.c (.val (.bool false)),.c (.val (.slice none 0 0)),.c (.val (.slice none 0 0))] = encB fR (List.replicate n zR):=by rw [encB_replicate];rfl
abbrev c89_k1:CC:=(.seq (.reg [⟨some 31,none,.mv (.tmp 3)⟩,⟨some 2,none,.mv (.tmp 31)⟩]) .ret)
abbrev c89_b1:CC:=(.seq (.reg [⟨some 12,none,.bin .lss (.tmp 11) (.tmp 10)⟩]) (.seq (.cond (.tmp 12) .skip (.exit 0)) (.seq (.block 1 (.seq (.reg [⟨some 13,none,.mv (.tmp 11)⟩,⟨some 14,none,.iaddr 1 none (.tmp 9) (.tmp 11)⟩,⟨some 15,none,.load 1 false (.tmp 14)⟩,⟨some 4,none,.mv (.tmp 13)⟩,⟨some 5,none,.mv (.tmp 15)⟩]) (.seq (.reg [⟨some 16,none,.mv (.tmp 3)⟩,⟨some 17,none,.mv (.tmp 4)⟩,⟨some 18,none,.mv (.tmp 5)⟩,⟨some 19,none,.len false (.tmp 18)⟩,⟨some 20,none,.make 41 3 56 [(.bool false),(.slice none 0 0),(.slice none 0 0)] (.tmp 19) (.tmp 19)⟩,⟨some 21,none,.iaddr 1 none (.tmp 16) (.tmp 17)⟩,⟨none,none,.store 1 (.tmp 21) (.tmp 20)⟩]) (.reg [⟨some 22,none,.mv (.tmp 3)⟩,⟨some 23,none,.mv (.tmp 4)⟩,⟨some 24,none,.iaddr 1 none (.tmp 22) (.tmp 23)⟩,⟨some 25,none,.load 1 false (.tmp 24)⟩,⟨some 26,none,.mv (.tmp 5)⟩,⟨some 27,none,.callf (.func 15) [(.const (.int .i64 (1)))]⟩,⟨some 28,none,.callf (.func 16) [(.tmp 26),(.tmp 27)]⟩,⟨some 29,none,.copy 3 (.tmp 25) (.tmp 28)⟩])))) (.reg [⟨some 30,none,.bin .add (.tmp 11) (.const (.int .i64 (1)))⟩,⟨some 11,none,.mv (.tmp 30)⟩]))))
abbrev c89:CC:=(.seq (.reg [⟨some 2,none,.mv (.const (.slice none 0 0))⟩]) (.seq (.reg [⟨some 6,none,.mv (.tmp 0)⟩,⟨some 7,none,.len false (.tmp 6)⟩,⟨some 8,none,.make 23 1 24 [(.slice none 0 0)] (.tmp 7) (.tmp 7)⟩,⟨some 3,none,.mv (.tmp 8)⟩]) (.seq (.seq (.reg [⟨some 9,none,.mv (.tmp 0)⟩,⟨some 10,none,.len false (.tmp 9)⟩,⟨some 11,none,.mv (.const (.int .i64 (0)))⟩]) (.block 0 (.loop c89_b1))) c89_k1)))
theorem cc89:ccode Try.prog [] (Try.f89.body.getD .skip) = some c89:=by kernel_rfl
theorem body89:Try.f89.body = some (Try.f89.body.getD .skip):=rfl
theorem own_C (m:MM) (n L:Nat) (hm:FitsM m n L) (hn:n <= 1000000) (hL:1 <= L) (hL2:L <= 4000000) :
  PureC Try.prog 89 [aM m] (.fresh 23 1 (((qM m).map rawV).map fM) true):=by
 have hm1:=hm.1
 have hint:=rint_C 1 (by omega) (by omega)
 rw [show ((1:Int):Rat) = 1 from rfl] at hint
 refine pureC_of (rs:=[(RV.tmp 2)]) Try.func89 (fun a w=>Try.call89 a w) body89 cc89 (by kernel_rfl) ?_
 rw [Try.ntmps89]
 simp only [frs,nA,nS]
 repeat (first | (with_reducible first | refine Way.imp ?_ | refine blk_o rfl ?_) | ((with_reducible refine WayR.imp (fun K hK=>?_));simp (disch:=first | omega | (simp only [dls];omega)) only [std,reduceIte,reduceCtorEq,iT,nA,nS,nM,iA,iS,iM,iN,fU,repM];subst hK))
 refine awp_loop (fun (zz:Nat × (List VV))=>⟨(.junk :: .junk :: .junk :: .one (.own 0 0) :: .junk :: .junk :: .junk :: .junk :: .junk :: aM m :: aI (osl m).length :: aI zz.1 :: .junk :: .junk :: .junk :: .junk :: .junk :: .junk :: .junk :: .junk :: .junk :: .junk :: .junk :: .junk :: .junk :: .junk :: .junk :: .junk :: .junk :: .junk :: .junk :: .junk :: []),[⟨0,23,1,encB fM zz.2,true,true⟩]⟩) (fun (zz:Nat × (List VV))=>zz.1 <= (osl m).length /\ zz.2 = ((qM m).take zz.1).map rawV ++ List.replicate ((osl m).length - zz.1) none) (fun (zz:Nat × (List VV))=>(osl m).length - zz.1) (0,List.replicate (osl m).length none) ?hI1 (Fgt.head (Nat.zero_le 1) [false,false,false,true,false,false,false,false,false,true,true,true] ?hT1 ?hH1) ?hB1
 case hT1=>first | (simp (disch:=omega) only [hds,liveT,cleanAV,cleanCell,clean1,cleanBlk,reduceIte,iS,iA,iN];done) | rfl
 case hH1=>first | (simp (disch:=omega) only [hds,liveT,cleanAV,cleanCell,clean1,cleanBlk,reduceIte,iS,iA,iN];done) | rfl
 ·dsimp only;exact ⟨by omega,rfl⟩
 rintro ⟨i,out⟩ ⟨hi,ho⟩
 dsimp only at hi ho
 have hql:(qM m).length = (osl m).length:=by unfold qM;rw [List.length_map]
 have hol:out.length = (osl m).length:=by rw [ho,List.length_append,List.length_map,List.length_take,List.length_replicate];omega
 by_cases him:i = (osl m).length
 ·repeat (first | (with_reducible first | refine Way.imp ?_ | refine blk_o rfl ?_) | ((with_reducible refine WayR.imp (fun K hK=>?_));simp (disch:=first | omega | (simp only [dls];omega)) only [std,reduceIte,reduceCtorEq,iT,nA,nS,nM,iA,iS,iM,iN,fU];subst hK))
  refine ⟨_,rfl,?_⟩
  rw [him,Nat.sub_self,List.replicate_zero,List.append_nil,<- hql,List.take_length] at ho
  rw [<- ho]
  exact Ends.fresh_enc rfl
 ·have hlt:i < (osl m).length:=by omega
  have hfi:=hm.2 _ (List.getElem_mem hlt)
  have hfl:=hfi.1
  have hsc:=(vscale_C (osl m)[i] (rawQ 1) n L hfi (fits_rawQ (fitsQ_one L hL)) hn hL hL2).fresh_rowO
  have hsg:∀ x:List Cell,((encB fM out).set i x)[i]? = some x:=fun x=>List.getElem?_set_self (by rw [encB_length];omega)
  have hsl:∀ x:List Cell,((encB fM out).set i x).length = (osl m).length:=fun x=>by rw [List.length_set,encB_length];exact hol
  repeat (first | (with_reducible first | refine Way.imp ?_ | refine blk_o rfl ?_) | ((with_reducible refine WayR.imp (fun K hK=>?_));simp (disch:=first | omega | (simp only [dls];omega)) only [std,reduceIte,reduceCtorEq,iT,nA,nS,nM,iA,iS,iM,iN,fU,fM,repR,hsg,hsl];subst hK) | refine zcA (hint) rfl rfl rfl ?_ | refine zcA (hsc) rfl rfl rfl ?_)
  have hsq:scaleQ (osl m)[i] (rawQ 1).val = (osl (osl m)[i]).map fun r=>r.val:=by
   unfold scaleQ;rw [rawQ_val];simp only [Rat.mul_one]
  rw [osl_rowO,hsq,copyR (((osl (osl m)[i]).map fun r=>r.val).map rawQ) (osl (osl m)[i]).length _ rfl (by rw [List.length_map])]
  refine ⟨(i + 1,out.set i (rawV ((osl (osl m)[i]).map fun r=>r.val))),⟨by dsimp only;omega,?_⟩,by dsimp only;omega,Fgt.trans (Fgt.cellSet (b:=0) (c:=1) (x:=rawV ((osl (osl m)[i]).map fun r=>r.val)) rfl rfl (by decide) rfl rfl) ?_⟩
  ·dsimp only
   have hqi:(qM m)[i]'(by omega) = (osl (osl m)[i]).map fun r=>r.val:=by unfold qM;rw [List.getElem_map]
   have hr:List.replicate ((osl m).length - i) (none:VV) = none :: List.replicate ((osl m).length - (i + 1)) none:=by rw [<- List.replicate_succ];congr 1;omega
   rw [ho,hr,List.set_append_right _ _ (by rw [List.length_map,List.length_take];omega),List.take_succ_eq_append_getElem (by omega),List.map_append,hqi,List.append_assoc]
   rw [show i - (((qM m).take i).map rawV).length = 0 by rw [List.length_map,List.length_take];omega]
   rfl
  ·rw [freeze_from]
   simp only [fzl,nB,nA,Bool.false_eq_true,if_true,if_false,reduceIte,List.set_cons_zero]
   refine Fgt.head (Nat.zero_le 1) [false,false,false,true,false,false,false,false,false,true,true,true] ?hT ?hH
   case hT=>first | (simp (disch:=omega) only [hds,liveT,cleanAV,cleanCell,clean1,cleanBlk,reduceIte,iS,iA,iN];done) | rfl
   case hH=>first | (simp (disch:=omega) only [hds,liveT,cleanAV,cleanCell,clean1,cleanBlk,reduceIte,iS,iA,iN];done) | rfl
theorem turned_val (b:RR) (z:Int) (h0:b.top ≠ 0) (hz:z = if b.top < 0 then -(b.bot:Int) else (b.bot:Int)):RR.val ⟨(rawZ z).minus,(rawZ z).size,b.size⟩ = b.val⁻¹:=by
 have ht:RR.top ⟨(rawZ z).minus,(rawZ z).size,b.size⟩ = z:=by rw [<- num_top];exact rawZ_val z
 have hb0:b.size.val ≠ 0:=by rw [<- top_abs];omega
 have hbt:RR.bot ⟨(rawZ z).minus,(rawZ z).size,b.size⟩ = b.size.val:=by
  rw [<- denR_bot,denR_val,if_neg hb0]
 have hbp:b.bot ≠ 0:=by rw [<- denR_bot,denR_val];split <;> omega
 have hm:b.val * RR.val ⟨(rawZ z).minus,(rawZ z).size,b.size⟩ = 1:=by
  unfold RR.val
  rw [ht,hbt,Rat.mkRat_mul_mkRat]
  have hz2:b.top * z = ((b.bot * b.size.val:Nat):Int):=by
   rw [<- top_abs,Int.natCast_mul,hz]
   split
   ·rename_i h;rw [Int.mul_neg,<- Int.neg_mul,Int.mul_comm];congr 1;omega
   ·rename_i h;rw [Int.mul_comm];congr 1;omega
  rw [hz2]
  have hne:b.bot * b.size.val ≠ 0:=Nat.mul_ne_zero hbp hb0
  rw [Rat.mkRat_eq_div,Rat.div_def]
  exact Rat.mul_inv_cancel _ (by exact_mod_cast hne)
 have hv0:b.val ≠ 0:=fun e=>by rw [e,Rat.zero_mul] at hm;exact absurd hm (by decide)
 calc RR.val ⟨(rawZ z).minus,(rawZ z).size,b.size⟩ = (b.val⁻¹ * b.val) * RR.val ⟨(rawZ z).minus,(rawZ z).size,b.size⟩:=by rw [Rat.inv_mul_cancel _ hv0,Rat.one_mul]
  _ = b.val⁻¹:=by rw [Rat.mul_assoc,hm,Rat.mul_one]
abbrev c58:CC:=(.seq (.reg [⟨some 2,none,.box 41 (.tmp 0)⟩,⟨some 3,none,.box 41 (.tmp 1)⟩,⟨some 4,none,.new 41 [(.bool false),(.slice none 0 0),(.slice none 0 0)]⟩,⟨some 5,none,.mv (.const (.int .i64 (0)))⟩]) (.seq (.seq (.reg [⟨some 7,none,.load 3 true (.tmp 3)⟩,⟨some 8,none,.callf (.func 23) [(.tmp 7)]⟩,⟨some 9,none,.bin .eql (.tmp 8) (.const (.int .i64 (0)))⟩]) (.cond (.tmp 9) (.seq (.reg [⟨some 10,none,.build [(.bool false),(.slice none 0 0),(.slice none 0 0)] []⟩,⟨none,none,.store 3 (.tmp 4) (.tmp 10)⟩,⟨some 5,none,.mv (.const (.int .i64 (5)))⟩]) .ret) .skip)) (.seq (.regn true [⟨some 11,none,.load 3 true (.tmp 3)⟩,⟨some 12,none,.callf (.func 23) [(.tmp 11)]⟩,⟨some 13,none,.bin .lss (.tmp 12) (.const (.int .i64 (0)))⟩,⟨some 14,none,.load 3 true (.tmp 3)⟩,⟨some 15,none,.callf (.func 55) [(.tmp 14)]⟩,⟨some 16,none,.callf (.func 79) [(.tmp 13),(.tmp 15)]⟩,⟨some 17,none,.faddr 0 (.tmp 3)⟩,⟨some 18,none,.faddr 1 (.tmp 17)⟩,⟨some 19,none,.load 1 false (.tmp 18)⟩,⟨some 20,none,.build [(.bool false),(.slice none 0 0),(.slice none 0 0)] [(0,(2,(.tmp 16))),(2,(1,(.tmp 19)))]⟩,⟨some 6,none,.fill 41 [(.bool false),(.slice none 0 0),(.slice none 0 0)]⟩,⟨none,none,.store 3 (.tmp 6) (.tmp 20)⟩]) (.seq (.reg [⟨some 21,none,.load 3 true (.tmp 2)⟩,⟨some 22,none,.load 3 true (.tmp 6)⟩,⟨some 23,none,.callf (.func 19) [(.tmp 21),(.tmp 22)]⟩,⟨none,none,.store 3 (.tmp 4) (.tmp 23)⟩,⟨some 5,none,.mv (.const (.int .i64 (0)))⟩]) .ret))))
theorem cc58:ccode Try.prog [] (Try.f58.body.getD .skip) = some c58:=by kernel_rfl
theorem body58:Try.f58.body = some (Try.f58.body.getD .skip):=rfl
theorem rdiv_C (a b:RR) (ha:Fits a 9000000) (hb:Fits b 9000000) (h0:b.val ≠ 0):PureC Try.prog 58 [aR a,aR b] (.ret (.tup [aR (rawQ (a.val / b.val)),aI 0])):=by
 have ht0:b.top ≠ 0:=fun e=>h0 (by unfold RR.val;rw [e];exact Rat.zero_mkRat _)
 have hs:=rsign_C b (hb.mono (by decide))
 have hden:=den_C b (Nat.le_trans hb.2 (by decide))
 have hdl:=denR_len b.den
 have hf1:=hb.1
 have hf2:=hb.2
 by_cases hneg:b.top < 0
 ·have hsv:sgn b.top = -1:=by unfold sgn;rw [if_pos hneg]
  rw [hsv] at hs
  have hmk:=wmake_C true (denR b.den) (by omega)
  rw [show RI.val ⟨true,denR b.den⟩ = -(b.bot:Int) from by unfold RI.val;rw [if_pos rfl,denR_bot]] at hmk
  have htv:=turned_val b (-(b.bot:Int)) ht0 (by rw [if_pos hneg])
  have hmul:=rmul_C a ⟨(rawZ (-(b.bot:Int))).minus,(rawZ (-(b.bot:Int))).size,b.size⟩ ha ⟨by rw [rawZ_size,osl_len_rowN,Int.natAbs_neg,Int.natAbs_natCast];exact hb.bot (by decide),hf1⟩
  rw [htv,<- Rat.div_def] at hmul
  generalize rawQ (a.val / b.val) = q at *
  generalize rawZ (-(b.bot:Int)) = z at *
  refine pureC_of (rs:=[(RV.cell 4 3 true),(RV.tmp 5)]) Try.func58 (fun a w=>Try.call58 a w) body58 cc58 (by kernel_rfl) ?_
  rw [Try.ntmps58]
  simp only [frs,nA,nS]
  repeat (first | (with_reducible first | refine Way.imp ?_ | refine blk_o rfl ?_) | ((with_reducible refine WayR.imp (fun K hK=>?_));simp (disch:=first | omega | (simp only [dls];omega)) only [std,reduceIte,reduceCtorEq,iT,nA,nS,nM,iA,iS,iM,iN,fU];subst hK) | refine zcA (hs) rfl rfl rfl ?_ | refine zcA (hden) rfl rfl rfl ?_ | refine zcA (hmk) rfl rfl rfl ?_ | refine zcA (hmul) rfl rfl rfl ?_)
  exact ⟨_,rfl,rfl⟩
 ·have hsv:sgn b.top = 1:=by unfold sgn;rw [if_neg hneg,if_neg ht0]
  rw [hsv] at hs
  have hmk:=wmake_C false (denR b.den) (by omega)
  rw [show RI.val ⟨false,denR b.den⟩ = (b.bot:Int) from by unfold RI.val;rw [if_neg (by simp),denR_bot]] at hmk
  have htv:=turned_val b (b.bot:Int) ht0 (by rw [if_neg hneg])
  have hmul:=rmul_C a ⟨(rawZ (b.bot:Int)).minus,(rawZ (b.bot:Int)).size,b.size⟩ ha ⟨by rw [rawZ_size,osl_len_rowN,Int.natAbs_natCast];exact hb.bot (by decide),hf1⟩
  rw [htv,<- Rat.div_def] at hmul
  generalize rawQ (a.val / b.val) = q at *
  generalize rawZ (b.bot:Int) = z at *
  refine pureC_of (rs:=[(RV.cell 4 3 true),(RV.tmp 5)]) Try.func58 (fun a w=>Try.call58 a w) body58 cc58 (by kernel_rfl) ?_
  rw [Try.ntmps58]
  simp only [frs,nA,nS]
  repeat (first | (with_reducible first | refine Way.imp ?_ | refine blk_o rfl ?_) | ((with_reducible refine WayR.imp (fun K hK=>?_));simp (disch:=first | omega | (simp only [dls];omega)) only [std,reduceIte,reduceCtorEq,iT,nA,nS,nM,iA,iS,iM,iN,fU];subst hK) | refine zcA (hs) rfl rfl rfl ?_ | refine zcA (hden) rfl rfl rfl ?_ | refine zcA (hmk) rfl rfl rfl ?_ | refine zcA (hmul) rfl rfl rfl ?_)
  exact ⟨_,rfl,rfl⟩
def Wf (Q:QM) (n m L:Nat):Prop:=Q.length = n /\ ∀ r ∈ Q,r.length = m /\ ∀ q ∈ r,FitsQ q L
theorem Wf.mono {Q:QM} {n m L K:Nat} (h:Wf Q n m L) (hk:L <= K):Wf Q n m K:=⟨h.1,fun r hr=>⟨(h.2 r hr).1,fun q hq=>((h.2 r hr).2 q hq).mono hk⟩⟩
theorem Wf.row {Q:QM} {n m L i:Nat} (h:Wf Q n m L) (hi:i < n):(Q.getD i []).length = m /\ ∀ q ∈ Q.getD i [],FitsQ q L:=by
 have hi':i < Q.length:=by rw [h.1];exact hi
 rw [List.getD_eq_getElem?_getD,List.getElem?_eq_getElem hi']
 exact h.2 _ (List.getElem_mem hi')
theorem Wf.at {Q:QM} {n m L i k:Nat} (h:Wf Q n m L) (hi:i < n) (hk:k < m):FitsQ (eQ Q i k) L:=by
 have hr:=h.row hi
 unfold eQ
 have hk':k < (Q.getD i []).length:=by rw [hr.1];exact hk
 rw [List.getD_eq_getElem?_getD (l:=Q.getD i []),List.getElem?_eq_getElem hk']
 exact hr.2 _ (List.getElem_mem hk')
theorem Wf.set {Q:QM} {n m L i:Nat} {r:List Rat} (h:Wf Q n m L) (hr:r.length = m) (hq:∀ q ∈ r,FitsQ q L):Wf (Q.set i r) n m L:=by
 refine ⟨by rw [List.length_set];exact h.1,fun x hx=>?_⟩
 rcases List.mem_or_eq_of_mem_set hx with h' | h'
 ·exact h.2 x h'
 ·rw [h'];exact ⟨hr,hq⟩
theorem FitsQ.inv {q:Rat} {L:Nat} (h:FitsQ q L) (hL:1 <= L) (h0:q ≠ 0):FitsQ (1 / q) L:=by
 have hn:q.num ≠ 0:=fun e=>h0 (Rat.num_eq_zero.1 e)
 rw [Rat.div_def,Rat.one_mul]
 refine ⟨?_,?_⟩
 ·rw [Rat.num_inv,Int.natAbs_mul,Int.natAbs_sign_of_ne_zero hn,Nat.one_mul,Int.natAbs_natCast];exact h.2
 ·rw [Rat.den_inv,if_neg hn];exact h.1
theorem fits_scaleL {a:List Rat} {q:Rat} {L K:Nat} (ha:∀ x ∈ a,FitsQ x L) (hq:FitsQ q K):∀ x ∈ scaleL a q,FitsQ x (L + K):=by
 intro x hx
 unfold scaleL at hx
 obtain ⟨y,hy,rfl⟩:=List.mem_map.1 hx
 exact (ha y hy).mul hq
theorem fits_addL {a b:List Rat} {L K:Nat} (ha:∀ x ∈ a,FitsQ x L) (hb:∀ x ∈ b,FitsQ x K):∀ x ∈ addL a b,FitsQ x (L + K + 1):=by
 intro x hx
 unfold addL at hx
 obtain ⟨i,hi,rfl⟩:=List.mem_iff_getElem.1 hx
 rw [List.length_zipWith] at hi
 rw [List.getElem_zipWith]
 exact (ha _ (List.getElem_mem _)).add1 (hb _ (List.getElem_mem _))
def RowF (Q:QM) (i m L:Nat):Prop:=(Q.getD i []).length = m /\ ∀ q ∈ Q.getD i [],FitsQ q L
theorem RowF.mono {Q:QM} {i m L K:Nat} (h:RowF Q i m L) (hk:L <= K):RowF Q i m K:=⟨h.1,fun q hq=>(h.2 q hq).mono hk⟩
theorem RowF.at {Q:QM} {i k m L:Nat} (h:RowF Q i m L) (hk:k < m):FitsQ (eQ Q i k) L:=by
 unfold eQ
 have hk':k < (Q.getD i []).length:=by rw [h.1];exact hk
 rw [List.getD_eq_getElem?_getD (l:=Q.getD i []),List.getElem?_eq_getElem hk']
 exact h.2 _ (List.getElem_mem hk')
theorem wf_rows {Q:QM} {n m L:Nat} (hl:Q.length = n) (h:∀ i,i < n -> RowF Q i m L):Wf Q n m L:=by
 refine ⟨hl,fun r hr=>?_⟩
 obtain ⟨i,hi,rfl⟩:=List.mem_iff_getElem.1 hr
 have:=h i (by omega)
 unfold RowF at this
 rw [List.getD_eq_getElem?_getD,List.getElem?_eq_getElem hi] at this
 exact this
theorem elim_fits {Q:QM} {a k n m L:Nat} (hl:Q.length = n) (ha:a < n) (hk:k < m) (hra:RowF Q a m (2 * L)) (hr:∀ i,i < n -> i ≠ a -> RowF Q i m L) (j:Nat) (hj:j <= n) :
  (elimTo Q a k j).length = n /\ (elimTo Q a k j).getD a [] = Q.getD a [] /\ ∀ i,i < n -> i ≠ a -> (i < j -> RowF (elimTo Q a k j) i m (4 * L + 1)) /\ (j <= i -> (elimTo Q a k j).getD i [] = Q.getD i []):=by
 induction j with
 | zero=>exact ⟨hl,rfl,fun i hi hia=>⟨fun h=>by omega,fun _=>rfl⟩⟩
 | succ j ih =>
  obtain ⟨h1,h2,h3⟩:=ih (by omega)
  rw [elimTo_succ]
  unfold elim1
  split
  ·rename_i hc
   refine ⟨h1,h2,fun i hi hia=>⟨fun h=>?_,fun h=>(h3 i hi hia).2 (by omega)⟩⟩
   by_cases he:i = j
   ·subst he
    have:=(h3 i hi hia).2 (Nat.le_refl _)
    unfold RowF
    rw [this]
    exact (hr i hi hia).mono (by omega)
   ·exact (h3 i hi hia).1 (by omega)
  ·rename_i hc
   have hja:j ≠ a:=fun e=>hc (.inl e)
   have hjr:=(h3 j (by omega) hja).2 (Nat.le_refl _)
   have hrj:RowF (elimTo Q a k j) j m L:=by unfold RowF;rw [hjr];exact hr j (by omega) hja
   have hjl:j < (elimTo Q a k j).length:=by omega
   refine ⟨by rw [List.length_set];exact h1,by rw [rowSet_ne hja];exact h2,fun i hi hia=>⟨fun h=>?_,fun h=>?_⟩⟩
   ·by_cases he:i = j
    ·subst he
     unfold RowF
     rw [rowSet_self hjl,h2]
     refine ⟨?_,?_⟩
     ·unfold addL scaleL
      rw [List.length_zipWith,List.length_map,hrj.1,hra.1,Nat.min_self]
     ·intro q hq
      exact (fits_addL hrj.2 (fits_scaleL hra.2 (hrj.at hk).neg) q hq).mono (by omega)
    ·unfold RowF
     rw [rowSet_ne (fun e=>he e.symm)]
     exact (h3 i hi hia).1 (by omega)
   ·rw [rowSet_ne (by omega)]
    exact (h3 i hi hia).2 (by omega)
theorem swap_fits {Q:QM} {a i n m L:Nat} (h:Wf Q n m L) (ha:a < n) (hi:i < n):Wf (swapL Q a i) n m L:=by
 have r1:=h.row ha
 have r2:=h.row hi
 unfold swapL
 exact (h.set r2.1 r2.2).set r1.1 r1.2
theorem one_fits {Q:QM} {a k n m L:Nat} (h:Wf Q n m L) (ha:a < n) (hk:k < m) (hL:1 <= L) (h0:eQ Q a k ≠ 0) :
  (oneL Q a k).length = n /\ RowF (oneL Q a k) a m (2 * L) /\ ∀ i,i < n -> i ≠ a -> RowF (oneL Q a k) i m L:=by
 have ra:=h.row ha
 unfold oneL
 refine ⟨by rw [List.length_set];exact h.1,?_,fun i hi hia=>?_⟩
 ·unfold RowF
  rw [rowSet_self (by rw [h.1];exact ha)]
  refine ⟨by unfold scaleL;rw [List.length_map];exact ra.1,fun q hq=>(fits_scaleL ra.2 ((h.at ha hk).inv hL h0) q hq).mono (by omega)⟩
 ·unfold RowF
  rw [rowSet_ne (fun e=>hia e.symm)]
  exact h.row hi
theorem swap_at {Q:QM} {a i k n m L:Nat} (h:Wf Q n m L) (ha:a < n) (hi:i < n):eQ (swapL Q a i) a k = eQ Q i k:=by
 unfold eQ swapL
 by_cases he:i = a
 ·subst he
  rw [rowSet_self (by rw [List.length_set,h.1];exact hi)]
 ·rw [rowSet_ne he,rowSet_self (by rw [h.1];exact ha)]
theorem red_fits {Q:QM} {n m L:Nat} (h:Wf Q n m L) (hL:1 <= L) (k:Nat) (hk:k <= m) :
  (redTo Q k).2.length <= n /\ Wf (redTo Q k).1 n m (4 ^ (redTo Q k).2.length * (L + 1) - 1) /\ 1 <= 4 ^ (redTo Q k).2.length * (L + 1) - 1:=by
 induction k with
 | zero=>exact ⟨Nat.zero_le _,by show Wf Q n m (4 ^ 0 * (L + 1) - 1);rw [Nat.pow_zero,Nat.one_mul];exact h,by show 1 <= 4 ^ 0 * (L + 1) - 1;rw [Nat.pow_zero,Nat.one_mul];omega⟩
 | succ k ih =>
  obtain ⟨h1,h2,h3⟩:=ih (by omega)
  rw [redTo_succ]
  generalize redTo Q k = S at *
  obtain ⟨M,P⟩:=S
  simp only at h1 h2 h3
  unfold stepQ
  simp only
  split
  ·exact ⟨h1,h2,h3⟩
  ·rename_i hp
   have hg:=pivQ_ge (Q:=M) (k:=k) (a:=P.length) (by rw [h2.1];exact h1)
   have hlt:pivQ M k P.length < M.length:=by omega
   have hi:pivQ M k P.length < n:=by rw [<- h2.1];exact hlt
   have ha:P.length < n:=by omega
   have hnz:=pivQ_nz (by omega) hlt
   have hs:=swap_fits h2 ha hi
   obtain ⟨o1,o2,o3⟩:=one_fits hs ha (show k < m by omega) h3 (by rw [swap_at h2 ha hi];exact hnz)
   obtain ⟨e1,e2,e3⟩:=elim_fits o1 ha (show k < m by omega) o2 o3 n (Nat.le_refl _)
   have hB:4 * (4 ^ P.length * (L + 1) - 1) + 1 <= 4 ^ (P.length + 1) * (L + 1) - 1:=by
    rw [Nat.pow_succ,Nat.mul_comm _ 4,Nat.mul_assoc]
    generalize 4 ^ P.length * (L + 1) = B at *
    omega
   have h3':1 <= 4 ^ P.length * (L + 1) - 1:=h3
   have hpl:(P ++ [k]).length = P.length + 1:=by rw [List.length_append];rfl
   rw [h2.1]
   simp only [hpl]
   refine ⟨by omega,?_,by omega⟩
   ·refine wf_rows e1 (fun i hi'=>?_)
    by_cases he:i = P.length
    ·subst he
     unfold RowF
     rw [e2]
     exact o2.mono (by omega)
    ·exact ((e3 i hi' he).1 hi').mono hB
abbrev aIs (l:Option (List Int)):AV:=.one (.c (encSl 1 fI l))
def intsN (P:List Nat):List Int:=P.map fun n:Nat=>(n:Int)
theorem close_res22 {α β:Type} {f:α -> List CV} {g:β -> List CV} {h:List Blk} {b c ver ver' ty ty' e e':Nat} {live live' nn:Bool} {l:List α} {r:List β} (hk:h[b]? = some ⟨ver,ty,e,encB f l,live,true⟩) (h0:0 < e)
  (hk':h[c]? = some ⟨ver',ty',e',encB g r,live',nn⟩) (h0':0 < e') (hn:nn = !r.isEmpty) :
  closeRes h (.tup [.one (.own b ver),.one (.own c ver')]) = some (.tup [.one (.c (encSl e f (some l))),.one (.c (encSl e' g (rowO r)))]):=by
 have h1:=close_own (n:=2) hk h0
 have h2:=close_ownO hk' h0' hn
 unfold closeRes
 simp only [List.mapM_cons,List.mapM_nil,h1,h2]
 rfl
theorem elimTo_zero (Q:QM) (a k:Nat):elimTo Q a k 0 = Q:=rfl
theorem intsN_nil:intsN [] = []:=rfl
theorem intsN_snoc (P:List Nat) (k:Nat):encB fI (intsN P) ++ [[Cell.c (.val (.int .i64 (k:Int)))]] = encB fI (intsN (P ++ [k])):=by
 unfold intsN;rw [List.map_append];simp [encB,fI]
theorem intsN_length (P:List Nat):(intsN P).length = P.length:=by unfold intsN;rw [List.length_map]
theorem setM (l:List VV) (i:Nat) (v:VV):(encB fM l).set i [Cell.c (vr v)] = encB fM (l.set i v):=encB_set l i v
theorem encM_get {Q:QM} {i:Nat} (h:i < Q.length):(encB fM (Q.map rawV))[i]? = some [Cell.c (vr (rawV Q[i]))]:=by
 rw [encB_get _ (by rw [List.length_map];exact h),List.getElem_map];rfl
theorem eQ_in {Q:QM} {i k:Nat} (hi:i < Q.length) (hk:k < Q[i].length):eQ Q i k = Q[i][k]:=by
 unfold eQ;rw [List.getD_eq_getElem?_getD,List.getD_eq_getElem?_getD,List.getElem?_eq_getElem hi,Option.getD_some,List.getElem?_eq_getElem hk];rfl
theorem osl_rawV (r:List Rat):osl (rawV r) = r.map rawQ:=rfl
theorem wf_qM {m:MM} {n L:Nat} (h:FitsM m n L) (hk:okM m = true) (hL:1 <= L):Wf (qM m) (osl m).length (cols m) L:=by
 unfold okM at hk
 simp only [Bool.and_eq_true] at hk
 refine ⟨by unfold qM;rw [List.length_map],fun r hr=>?_⟩
 unfold qM at hr
 obtain ⟨v,hv,rfl⟩:=List.mem_map.1 hr
 obtain ⟨i,hi,rfl⟩:=List.mem_iff_getElem.1 hv
 have:=rectTo_at hk.1 hi
 rw [mAt_in hi] at this
 refine ⟨by rw [List.length_map];exact this,fun q hq=>?_⟩
 obtain ⟨x,hx,rfl⟩:=List.mem_map.1 hq
 exact ((h.2 _ hv).2 x hx).val hL
theorem rows_rq {α β γ:Type} {f:β -> γ} {g:α -> β} (l:List α):l.map (fun q=>f (g q)) = (l.map g).map f:=by rw [List.map_map];rfl
theorem encSl_rq {l:List Rat} (h:l ≠ []):encSl 3 (fun q=>fR (rawQ q)) (rowO l) = vr (rawV l):=by
 cases l with
 | nil=>exact (h rfl).elim
 | cons x l=>rw [rowO_cons];simp [encSl,rawV]
theorem fitsV_raw {r:List Rat} {n L:Nat} (hn:r.length <= n) (h:∀ q ∈ r,FitsQ q L):FitsV (rawV r) n L:=by
 refine ⟨by rw [osl_rawV,List.length_map];exact hn,fun x hx=>?_⟩
 rw [osl_rawV] at hx
 obtain ⟨q,hq,rfl⟩:=List.mem_map.1 hx
 exact fits_rawQ (h q hq)
theorem rowscale_C (r:List Rat) (c:Rat) (n L:Nat) (hn:r.length <= n) (h:∀ q ∈ r,FitsQ q L) (hc:FitsQ c L) (hne:r ≠ []) (hn2:n <= 1000000) (hL:1 <= L) (hL2:L <= 4000000) :
  PureC Try.prog 16 [aV (rawV r),aR (rawQ c)] (.ret (aV (rawV (scaleL r c)))):=by
 refine (vscale_C (rawV r) (rawQ c) n L (fitsV_raw hn h) (fits_rawQ hc) hn2 hL hL2).fresh_rowO.to ?_
 have he:scaleQ (rawV r) (rawQ c).val = scaleL r c:=by
  unfold scaleQ scaleL
  rw [osl_rawV,List.map_map,rawQ_val]
  apply List.map_congr_left
  intro x _
  show (rawQ x).val * c = x * c
  rw [rawQ_val]
 rw [he,encSl_rq (by unfold scaleL;intro e;exact hne (List.map_eq_nil_iff.1 e))]
theorem qAt_rawV {r:List Rat} {i:Nat} (h:i < r.length):qAt (rawV r) i = r[i]:=by
 unfold qAt rAt
 rw [osl_rawV,List.getD_eq_getElem?_getD,List.getElem?_eq_getElem (by rw [List.length_map];exact h),Option.getD_some,List.getElem_map,rawQ_val]
theorem rowadd_C (a b:List Rat) (n L:Nat) (hab:a.length = b.length) (hn:a.length <= n) (ha:∀ q ∈ a,FitsQ q L) (hb:∀ q ∈ b,FitsQ q L) (hne:a ≠ []) (hn2:n <= 1000000) (hL:1 <= L) (hL2:L <= 4000000) :
  PureC Try.prog 90 [aV (rawV a),aV (rawV b)] (.ret (aV (rawV (addL a b)))):=by
 refine (vadd_C (rawV a) (rawV b) n L (fitsV_raw hn ha) (fitsV_raw (by omega) hb) hn2 hL hL2).fresh_rowO.to ?_
 have he:addQ (rawV a) (rawV b) = addL a b:=by
  unfold addQ addL
  rw [osl_rawV,osl_rawV,List.length_map,List.length_map,<- hab,Nat.max_self]
  apply List.ext_getElem
  ·rw [List.length_map,List.length_range,List.length_zipWith,<- hab,Nat.min_self]
  ·intro i h1 h2
   rw [List.length_map,List.length_range] at h1
   rw [List.getElem_map,List.getElem_range,List.getElem_zipWith,qAt_rawV h1,qAt_rawV (by omega)]
 rw [he,encSl_rq (by
  intro e
  have:=congrArg List.length e
  unfold addL at this
  rw [List.length_zipWith,<- hab,Nat.min_self] at this
  exact hne (List.length_eq_zero_iff.1 this))]
abbrev c66_k1:CC:=(.seq (.reg [⟨some 132,none,.mv (.tmp 7)⟩,⟨some 133,none,.mv (.tmp 8)⟩,⟨some 2,none,.mv (.tmp 132)⟩,⟨some 3,none,.mv (.tmp 133)⟩]) .ret)
abbrev c66_k2:CC:=(.reg [⟨some 131,none,.bin .add (.tmp 26) (.const (.int .i64 (1)))⟩,⟨some 26,none,.mv (.tmp 131)⟩])
abbrev c66_k3:CC:=(.reg [⟨some 127,none,.mv (.tmp 8)⟩,⟨some 128,none,.mv (.tmp 9)⟩,⟨some 129,none,.mkrow 3 1 [(.tmp 128)]⟩,⟨some 130,none,.append 3 1 8 (.tmp 127) (.tmp 129)⟩,⟨some 8,none,.mv (.tmp 130)⟩])
abbrev c66_b1:CC:=(.seq (.reg [⟨some 89,none,.bin .lss (.tmp 88) (.tmp 87)⟩]) (.seq (.cond (.tmp 89) .skip (.exit 4)) (.seq (.block 5 (.seq (.reg [⟨some 90,none,.mv (.tmp 88)⟩,⟨some 14,none,.mv (.tmp 90)⟩]) (.seq (.reg [⟨some 91,none,.mv (.tmp 14)⟩,⟨some 92,none,.mv (.tmp 10)⟩,⟨some 93,none,.bin .neq (.tmp 91) (.tmp 92)⟩,⟨some 94,none,.mv (.tmp 93)⟩,⟨some 95,(some (94,true)),.mv (.tmp 7)⟩,⟨some 96,(some (94,true)),.mv (.tmp 14)⟩,⟨some 97,(some (94,true)),.iaddr 1 none (.tmp 95) (.tmp 96)⟩,⟨some 98,(some (94,true)),.load 1 false (.tmp 97)⟩,⟨some 99,(some (94,true)),.mv (.tmp 9)⟩,⟨some 100,(some (94,true)),.iaddr 3 none (.tmp 98) (.tmp 99)⟩,⟨some 101,(some (94,true)),.load 3 true (.tmp 100)⟩,⟨some 102,(some (94,true)),.callf (.func 23) [(.tmp 101)]⟩,⟨some 103,(some (94,true)),.bin .neq (.tmp 102) (.const (.int .i64 (0)))⟩,⟨some 104,none,.pick (.tmp 94) (.tmp 103) (.const (.bool false))⟩]) (.cond (.tmp 104) (.reg [⟨some 105,none,.mv (.tmp 7)⟩,⟨some 106,none,.mv (.tmp 14)⟩,⟨some 107,none,.mv (.tmp 7)⟩,⟨some 108,none,.mv (.tmp 14)⟩,⟨some 109,none,.iaddr 1 none (.tmp 107) (.tmp 108)⟩,⟨some 110,none,.load 1 false (.tmp 109)⟩,⟨some 111,none,.mv (.tmp 7)⟩,⟨some 112,none,.mv (.tmp 10)⟩,⟨some 113,none,.iaddr 1 none (.tmp 111) (.tmp 112)⟩,⟨some 114,none,.load 1 false (.tmp 113)⟩,⟨some 115,none,.mv (.tmp 7)⟩,⟨some 116,none,.mv (.tmp 14)⟩,⟨some 117,none,.iaddr 1 none (.tmp 115) (.tmp 116)⟩,⟨some 118,none,.load 1 false (.tmp 117)⟩,⟨some 119,none,.mv (.tmp 9)⟩,⟨some 120,none,.iaddr 3 none (.tmp 118) (.tmp 119)⟩,⟨some 121,none,.load 3 true (.tmp 120)⟩,⟨some 122,none,.callf (.func 72) [(.tmp 121)]⟩,⟨some 123,none,.callf (.func 16) [(.tmp 114),(.tmp 122)]⟩,⟨some 124,none,.callf (.func 90) [(.tmp 110),(.tmp 123)]⟩,⟨some 125,none,.iaddr 1 none (.tmp 105) (.tmp 106)⟩,⟨none,none,.store 1 (.tmp 125) (.tmp 124)⟩]) .skip)))) (.reg [⟨some 126,none,.bin .add (.tmp 88) (.const (.int .i64 (1)))⟩,⟨some 88,none,.mv (.tmp 126)⟩]))))
abbrev c66_k4:CC:=(.seq (.seq (.reg [⟨some 48,none,.mv (.tmp 11)⟩,⟨some 49,none,.mv (.tmp 4)⟩,⟨some 50,none,.bin .eql (.tmp 48) (.tmp 49)⟩]) (.cond (.tmp 50) (.exit 1) .skip)) (.seq (.reg [⟨some 51,none,.mv (.tmp 7)⟩,⟨some 52,none,.mv (.tmp 10)⟩,⟨some 53,none,.mv (.tmp 7)⟩,⟨some 54,none,.mv (.tmp 11)⟩,⟨some 55,none,.mv (.tmp 7)⟩,⟨some 56,none,.mv (.tmp 11)⟩,⟨some 57,none,.iaddr 1 none (.tmp 55) (.tmp 56)⟩,⟨some 58,none,.load 1 false (.tmp 57)⟩,⟨some 59,none,.mv (.tmp 7)⟩,⟨some 60,none,.mv (.tmp 10)⟩,⟨some 61,none,.iaddr 1 none (.tmp 59) (.tmp 60)⟩,⟨some 62,none,.load 1 false (.tmp 61)⟩,⟨some 63,none,.iaddr 1 none (.tmp 51) (.tmp 52)⟩,⟨none,none,.store 1 (.tmp 63) (.tmp 58)⟩,⟨some 64,none,.iaddr 1 none (.tmp 53) (.tmp 54)⟩,⟨none,none,.store 1 (.tmp 64) (.tmp 62)⟩]) (.seq (.regn true [⟨some 66,none,.callf (.func 15) [(.const (.int .i64 (1)))]⟩,⟨some 67,none,.mv (.tmp 7)⟩,⟨some 68,none,.mv (.tmp 10)⟩,⟨some 69,none,.iaddr 1 none (.tmp 67) (.tmp 68)⟩,⟨some 70,none,.load 1 false (.tmp 69)⟩,⟨some 71,none,.mv (.tmp 9)⟩,⟨some 72,none,.iaddr 3 none (.tmp 70) (.tmp 71)⟩,⟨some 73,none,.load 3 true (.tmp 72)⟩,⟨some 74,none,.callf (.func 58) [(.tmp 66),(.tmp 73)]⟩,⟨some 65,none,.mv (.tmp 74)⟩,⟨some 75,none,.ext (.tmp 65) 0⟩,⟨some 76,none,.ext (.tmp 65) 1⟩,⟨some 12,none,.fill 41 [(.bool false),(.slice none 0 0),(.slice none 0 0)]⟩,⟨none,none,.store 3 (.tmp 12) (.tmp 75)⟩,⟨some 13,none,.mv (.tmp 76)⟩]) (.seq (.reg [⟨some 77,none,.mv (.tmp 7)⟩,⟨some 78,none,.mv (.tmp 10)⟩,⟨some 79,none,.mv (.tmp 7)⟩,⟨some 80,none,.mv (.tmp 10)⟩,⟨some 81,none,.iaddr 1 none (.tmp 79) (.tmp 80)⟩,⟨some 82,none,.load 1 false (.tmp 81)⟩,⟨some 83,none,.load 3 true (.tmp 12)⟩,⟨some 84,none,.callf (.func 16) [(.tmp 82),(.tmp 83)]⟩,⟨some 85,none,.iaddr 1 none (.tmp 77) (.tmp 78)⟩,⟨none,none,.store 1 (.tmp 85) (.tmp 84)⟩]) (.seq (.seq (.reg [⟨some 86,none,.mv (.tmp 7)⟩,⟨some 87,none,.len false (.tmp 86)⟩,⟨some 88,none,.mv (.const (.int .i64 (0)))⟩]) (.block 4 (.loop c66_b1))) c66_k3)))))
abbrev c66_b2:CC:=(.seq (.seq (.reg [⟨some 32,none,.mv (.tmp 11)⟩,⟨some 33,none,.mv (.tmp 4)⟩,⟨some 34,none,.bin .lss (.tmp 32) (.tmp 33)⟩,⟨some 35,none,.mv (.tmp 34)⟩,⟨some 36,(some (35,true)),.mv (.tmp 7)⟩,⟨some 37,(some (35,true)),.mv (.tmp 11)⟩,⟨some 38,(some (35,true)),.iaddr 1 none (.tmp 36) (.tmp 37)⟩,⟨some 39,(some (35,true)),.load 1 false (.tmp 38)⟩,⟨some 40,(some (35,true)),.mv (.tmp 9)⟩,⟨some 41,(some (35,true)),.iaddr 3 none (.tmp 39) (.tmp 40)⟩,⟨some 42,(some (35,true)),.load 3 true (.tmp 41)⟩,⟨some 43,(some (35,true)),.callf (.func 23) [(.tmp 42)]⟩,⟨some 44,(some (35,true)),.bin .eql (.tmp 43) (.const (.int .i64 (0)))⟩,⟨some 45,none,.pick (.tmp 35) (.tmp 44) (.const (.bool false))⟩]) (.cond (.tmp 45) .skip (.exit 2))) (.block 3 (.reg [⟨some 46,none,.mv (.tmp 11)⟩,⟨some 47,none,.bin .add (.tmp 46) (.const (.int .i64 (1)))⟩,⟨some 11,none,.mv (.tmp 47)⟩])))
abbrev c66_b3:CC:=(.seq (.reg [⟨some 27,none,.bin .lss (.tmp 26) (.tmp 25)⟩]) (.seq (.cond (.tmp 27) .skip (.exit 0)) (.seq (.block 1 (.seq (.reg [⟨some 28,none,.mv (.tmp 26)⟩,⟨some 9,none,.mv (.tmp 28)⟩]) (.seq (.reg [⟨some 29,none,.mv (.tmp 8)⟩,⟨some 30,none,.len false (.tmp 29)⟩,⟨some 10,none,.mv (.tmp 30)⟩]) (.seq (.reg [⟨some 31,none,.mv (.tmp 10)⟩,⟨some 11,none,.mv (.tmp 31)⟩]) (.seq (.block 2 (.loop c66_b2)) c66_k4))))) c66_k2)))
abbrev c66:CC:=(.seq (.reg [⟨some 2,none,.mv (.const (.slice none 0 0))⟩,⟨some 3,none,.mv (.const (.slice none 0 0))⟩]) (.scope (.seq (.reg [⟨some 16,none,.mv (.tmp 0)⟩,⟨some 17,none,.callf (.func 67) [(.tmp 16)]⟩,⟨some 15,none,.mv (.tmp 17)⟩,⟨some 18,none,.ext (.tmp 15) 0⟩,⟨some 19,none,.ext (.tmp 15) 1⟩,⟨some 20,none,.ext (.tmp 15) 2⟩,⟨some 4,none,.mv (.tmp 18)⟩,⟨some 5,none,.mv (.tmp 19)⟩,⟨some 6,none,.mv (.tmp 20)⟩]) (.seq (.seq (.reg [⟨some 21,none,.mv (.tmp 6)⟩,⟨some 22,none,.un .not (.tmp 21)⟩]) (.cond (.tmp 22) (.seq (.reg [⟨some 2,none,.mv (.const (.slice none 0 0))⟩,⟨some 3,none,.mv (.const (.slice none 0 0))⟩]) .ret) .skip)) (.seq (.reg [⟨some 23,none,.mv (.tmp 0)⟩,⟨some 24,none,.callf (.func 89) [(.tmp 23)]⟩,⟨some 7,none,.mv (.tmp 24)⟩]) (.seq (.reg [⟨some 8,none,.mv (.const (.slice none 0 0))⟩]) (.seq .skip (.seq (.seq (.reg [⟨some 25,none,.mv (.tmp 5)⟩,⟨some 26,none,.mv (.const (.int .i64 (0)))⟩]) (.block 0 (.loop c66_b3))) c66_k1))))))))
theorem cc66:ccode Try.prog [] (Try.f66.body.getD .skip) = some c66:=by kernel_rfl
theorem body66:Try.f66.body = some (Try.f66.body.getD .skip):=rfl
theorem reduce_no (m:MM) (hm:(osl m).length <= 1000000) (hk:okM m = false):PureC Try.prog 66 [aM m] (.ret (.tup [aM none,aIs none])):=by
 have hs:=sides_C m hm
 unfold sidesV at hs
 rw [hk] at hs
 simp only [Bool.false_eq_true,if_false] at hs
 refine pureC_of (rs:=[(RV.tmp 2),(RV.tmp 3)]) Try.func66 (fun a w=>Try.call66 a w) body66 cc66 (by kernel_rfl) ?_
 rw [Try.ntmps66]
 simp only [frs,nA,nS]
 repeat (first | (with_reducible first | refine Way.imp ?_ | refine blk_o rfl ?_) | ((with_reducible refine WayR.imp (fun K hK=>?_));simp (disch:=first | omega | (simp only [dls];omega)) only [std,reduceIte,reduceCtorEq,iT,nA,nS,nM,iA,iS,iM,iN,fU];subst hK) | refine zcA (hs) rfl rfl rfl ?_)
 exact ⟨_,rfl,rfl⟩
theorem reduce_C (m:MM) (n L:Nat) (hm:FitsM m n L) (hn:n <= 1000000) (hL:1 <= L) (hk:okM m = true) (hB:4 ^ (osl m).length * (L + 1) <= 4000000) :
  PureC Try.prog 66 [aM m] (.ret (.tup [aM (rawM (redTo (qM m) (cols m)).1),aIs (rowO (intsN (redTo (qM m) (cols m)).2))])):=by
 have hwf:=wf_qM hm hk hL
 have hs:=sides_C m (by have:=hm.1;omega)
 have hk':=hk
 unfold okM at hk'
 simp only [Bool.and_eq_true,decide_eq_true_eq] at hk'
 unfold sidesV at hs
 rw [hk] at hs
 simp only [if_true] at hs
 have h4:1 <= 4 ^ (osl m).length:=Nat.pow_pos (by decide)
 have hL2:L <= 4000000:=by
  have:=Nat.mul_le_mul h4 (Nat.le_refl (L + 1));omega
 have how:=own_C m n L hm hn hL hL2
 have hint:=rint_C 1 (by omega) (by omega)
 rw [show ((1:Int):Rat) = 1 from rfl] at hint
 generalize hQ0:qM m = Q0 at *
 generalize hN:(osl m).length = N at *
 generalize hW:cols m = W at *
 refine pureC_of (rs:=[(RV.tmp 2),(RV.tmp 3)]) Try.func66 (fun a w=>Try.call66 a w) body66 cc66 (by kernel_rfl) ?_
 rw [Try.ntmps66]
 simp only [frs,nA,nS]
 repeat (first | (with_reducible first | refine Way.imp ?_ | refine blk_o rfl ?_) | ((with_reducible refine WayR.imp (fun K hK=>?_));simp (disch:=first | omega | (simp only [dls];omega)) only [std,reduceIte,reduceCtorEq,iT,nA,nS,nM,iA,iS,iM,iN,fU];subst hK) | refine zcA (hs) rfl rfl rfl ?_ | (apply call_new (how) rfl;(case hcl=>(simp only [evs,St.ev,constAV,evl];(repeat (first | exact closeAVs_nil | (apply closeAVs_cons;(first | (refine close_own3 rfl (by decide)) | (refine close_ownO rfl (by decide) ?_;assumption) | rfl))));done));(case hu=>(simp only [evs,St.ev,constAV,evl];(repeat (first | exact used_nil | (apply used_cons;(first | (apply used_own3;rfl) | rfl))));done));(case hh=>((simp only [fzl,nB,nA,Bool.false_eq_true,if_true,if_false,reduceIte]) <;> rfl))))
 refine AWp.fgt ?_ (Fgt.openNil (i:=8) rfl 3 1)
 simp only [List.set_cons_succ,List.set_cons_zero,List.length_nil,List.length_cons,List.nil_append,List.cons_append,nA]
 refine awp_loop (fun (zz:Nat × QM × (List Nat) × Nat × Bool)=>⟨(.junk :: .junk :: .junk :: .junk :: aI N :: aI W :: .junk :: .one (.own 0 0) :: .one (.own 1 zz.2.2.2.1) :: .junk :: .junk :: .junk :: .junk :: .junk :: .junk :: .junk :: .junk :: .junk :: .junk :: .junk :: .junk :: .junk :: .junk :: .junk :: .junk :: aI W :: aI zz.1 :: .junk :: .junk :: .junk :: .junk :: .junk :: .junk :: .junk :: .junk :: .junk :: .junk :: .junk :: .junk :: .junk :: .junk :: .junk :: .junk :: .junk :: .junk :: .junk :: .junk :: .junk :: .junk :: .junk :: .junk :: .junk :: .junk :: .junk :: .junk :: .junk :: .junk :: .junk :: .junk :: .junk :: .junk :: .junk :: .junk :: .junk :: .junk :: .junk :: .junk :: .junk :: .junk :: .junk :: .junk :: .junk :: .junk :: .junk :: .junk :: .junk :: .junk :: .junk :: .junk :: .junk :: .junk :: .junk :: .junk :: .junk :: .junk :: .junk :: .junk :: .junk :: .junk :: .junk :: .junk :: .junk :: .junk :: .junk :: .junk :: .junk :: .junk :: .junk :: .junk :: .junk :: .junk :: .junk :: .junk :: .junk :: .junk :: .junk :: .junk :: .junk :: .junk :: .junk :: .junk :: .junk :: .junk :: .junk :: .junk :: .junk :: .junk :: .junk :: .junk :: .junk :: .junk :: .junk :: .junk :: .junk :: .junk :: .junk :: .junk :: .junk :: .junk :: .junk :: .junk :: .junk :: .junk :: .junk :: []),[⟨0,23,1,encB fM (zz.2.1.map rawV),true,true⟩,⟨zz.2.2.2.1,3,1,encB fI (intsN zz.2.2.1),true,zz.2.2.2.2⟩]⟩) (fun (zz:Nat × QM × (List Nat) × Nat × Bool)=>zz.1 <= W /\ (zz.2.1,zz.2.2.1) = redTo Q0 zz.1 /\ zz.2.2.2.2 = !zz.2.2.1.isEmpty) (fun (zz:Nat × QM × (List Nat) × Nat × Bool)=>W - zz.1) (0,Q0,[],0,false) ?hI1 (Fgt.head (Nat.zero_le 2) [false,false,false,false,true,true,false,true,true,false,false,false,false,false,false,false,false,false,false,false,false,false,false,false,false,true,true] ?hT1 ?hH1) ?hB1
 case hT1=>first | (simp (disch:=omega) only [hds,liveT,cleanAV,cleanCell,clean1,cleanBlk,reduceIte,iS,iA,iN,intsN_nil,encB_nil];done) | rfl
 case hH1=>first | (simp (disch:=omega) only [hds,liveT,cleanAV,cleanCell,clean1,cleanBlk,reduceIte,iS,iA,iN,intsN_nil,encB_nil];done) | rfl
 ·dsimp only;exact ⟨by omega,rfl,rfl⟩
 rintro ⟨k,Q,P,v,nn⟩ ⟨hi,hq,hnn⟩
 dsimp only at hi hq hnn
 have hred:=red_fits hwf hL k hi
 rw [<- hq] at hred
 simp only at hred
 obtain ⟨hP,hQ,hB1⟩:=hred
 have hBP:4 ^ P.length * (L + 1) - 1 <= 4000000:=by
  have:=Nat.mul_le_mul (Nat.pow_le_pow_right (by decide:0 < 4) hP) (Nat.le_refl (L + 1));omega
 by_cases him:k = W
 ·repeat (first | (with_reducible first | refine Way.imp ?_ | refine blk_o rfl ?_) | ((with_reducible refine WayR.imp (fun K hK=>?_));simp (disch:=first | omega | (simp only [dls];omega)) only [std,reduceIte,reduceCtorEq,iT,nA,nS,nM,iA,iS,iM,iN,fU];subst hK))
  refine ⟨_,rfl,?_⟩
  rw [<- him,<- hq]
  exact close_res22 (l:=Q.map rawV) (r:=intsN P) rfl (by decide) rfl (by decide) (by rw [hnn];unfold intsN;cases P <;> rfl)
 ·have hkW:k < W:=by omega
  repeat (first | (with_reducible first | refine Way.imp ?_ | refine blk_o rfl ?_) | ((with_reducible refine WayR.imp (fun K hK=>?_));simp (disch:=first | omega | (simp only [dls];omega)) only [std,reduceIte,reduceCtorEq,iT,nA,nS,nM,iA,iS,iM,iN,fU,intsN_length];subst hK))
  refine awp_loop (fun (zz:Nat)=>⟨(.junk :: .junk :: .junk :: .junk :: aI N :: aI W :: .junk :: .one (.own 0 0) :: .one (.own 1 v) :: aI k :: aI P.length :: aI zz :: .junk :: .junk :: .junk :: .junk :: .junk :: .junk :: .junk :: .junk :: .junk :: .junk :: .junk :: .junk :: .junk :: aI W :: aI k :: .junk :: .junk :: .junk :: .junk :: .junk :: .junk :: .junk :: .junk :: .junk :: .junk :: .junk :: .junk :: .junk :: .junk :: .junk :: .junk :: .junk :: .junk :: .junk :: .junk :: .junk :: .junk :: .junk :: .junk :: .junk :: .junk :: .junk :: .junk :: .junk :: .junk :: .junk :: .junk :: .junk :: .junk :: .junk :: .junk :: .junk :: .junk :: .junk :: .junk :: .junk :: .junk :: .junk :: .junk :: .junk :: .junk :: .junk :: .junk :: .junk :: .junk :: .junk :: .junk :: .junk :: .junk :: .junk :: .junk :: .junk :: .junk :: .junk :: .junk :: .junk :: .junk :: .junk :: .junk :: .junk :: .junk :: .junk :: .junk :: .junk :: .junk :: .junk :: .junk :: .junk :: .junk :: .junk :: .junk :: .junk :: .junk :: .junk :: .junk :: .junk :: .junk :: .junk :: .junk :: .junk :: .junk :: .junk :: .junk :: .junk :: .junk :: .junk :: .junk :: .junk :: .junk :: .junk :: .junk :: .junk :: .junk :: .junk :: .junk :: .junk :: .junk :: .junk :: .junk :: .junk :: .junk :: .junk :: []),[⟨0,23,1,encB fM (Q.map rawV),true,true⟩,⟨v,3,1,encB fI (intsN P),true,nn⟩]⟩) (fun (zz:Nat)=>P.length <= zz /\ zz <= N /\ pivFrom Q k (N - zz) zz = pivQ Q k P.length) (fun (zz:Nat)=>N - zz) (P.length) ?hI2 (Fgt.head (Nat.zero_le 2) [false,false,false,false,true,true,false,true,true,true,true,true,false,false,false,false,false,false,false,false,false,false,false,false,false,true,true] ?hT2 ?hH2) ?hB2
  case hT2=>first | (simp (disch:=omega) only [hds,liveT,cleanAV,cleanCell,clean1,cleanBlk,reduceIte,iS,iA,iN];done) | rfl
  case hH2=>first | (simp (disch:=omega) only [hds,liveT,cleanAV,cleanCell,clean1,cleanBlk,reduceIte,iS,iA,iN];done) | rfl
  ·exact ⟨by omega,by omega,by unfold pivQ;rw [hQ.1]⟩
  rintro i ⟨hai,hiN,hpf⟩
  have hQl:=hQ.1
  by_cases hin:i = N
  ·repeat (first | (with_reducible first | refine Way.imp ?_ | refine blk_o rfl ?_) | ((with_reducible refine WayR.imp (fun K hK=>?_));simp (disch:=first | omega | (simp only [dls];omega)) only [std,reduceIte,reduceCtorEq,iT,nA,nS,nM,iA,iS,iM,iN,fU,intsN_length];subst hK))
   refine ⟨(k + 1,Q,P,v,nn),?hI3,?hM3,Fgt.head (Nat.zero_le 2) [false,false,false,false,true,true,false,true,true,false,false,false,false,false,false,false,false,false,false,false,false,false,false,false,false,true,true] ?hT3 ?hH3⟩
   case hT3=>first | (simp (disch:=omega) only [hds,liveT,cleanAV,cleanCell,clean1,cleanBlk,reduceIte,iS,iA,iN];done) | rfl
   case hH3=>first | (simp (disch:=omega) only [hds,liveT,cleanAV,cleanCell,clean1,cleanBlk,reduceIte,iS,iA,iN];done) | rfl
   ·dsimp only
    refine ⟨by omega,?_,hnn⟩
    rw [redTo_succ,<- hq]
    unfold stepQ
    rw [if_pos]
    dsimp only
    rw [<- hpf,hin,Nat.sub_self,hQl]
    rfl
   ·dsimp only;omega
  ·have hilt:i < Q.length:=by omega
   have hrow:=(hQ.2 _ (List.getElem_mem hilt)).1
   have hrl:(osl (rawV Q[i])).length = W:=by rw [osl_rawV,List.length_map];exact hrow
   have hent:∀ h:k < (osl (rawV Q[i])).length,(osl (rawV Q[i]))[k]'h = rawQ (eQ Q i k):=fun h=>by rw [eQ_in hilt (by omega)];simp only [osl_rawV,List.getElem_map]
   have hfe:=hQ.at (show i < N by omega) hkW
   have hsg:=rsign_C (rawQ (eQ Q i k)) ((fits_rawQ hfe).mono (by omega))
   rw [rawQ_top] at hsg
   by_cases h0:eQ Q i k = 0
   ·rw [h0,show sgn (0:Rat).num = 0 from rfl] at hsg
    rw [h0] at hent
    repeat (first | (with_reducible first | refine Way.imp ?_ | refine blk_o rfl ?_) | ((with_reducible refine WayR.imp (fun K hK=>?_));simp (disch:=first | omega | (simp only [dls];omega)) only [std,reduceIte,reduceCtorEq,iT,nA,nS,nM,iA,iS,iM,iN,fU,fR,encM_get hilt,List.length_map,hrl,hent];subst hK) | refine zcA (hsg) rfl rfl rfl ?_)
    refine ⟨(i + 1),?hI4,?hM4,Fgt.head (Nat.zero_le 2) [false,false,false,false,true,true,false,true,true,true,true,true,false,false,false,false,false,false,false,false,false,false,false,false,false,true,true] ?hT4 ?hH4⟩
    case hT4=>first | (simp (disch:=omega) only [hds,liveT,cleanAV,cleanCell,clean1,cleanBlk,reduceIte,iS,iA,iN];done) | rfl
    case hH4=>first | (simp (disch:=omega) only [hds,liveT,cleanAV,cleanCell,clean1,cleanBlk,reduceIte,iS,iA,iN];done) | rfl
    ·refine ⟨by omega,by omega,?_⟩
     rw [<- hpf,show N - i = (N - (i + 1)) + 1 by omega]
     conv=>rhs;unfold pivFrom
     rw [if_pos h0]
    ·omega
   ·have hsn:sgn (eQ Q i k).num ≠ 0:=by
     have hn0:(eQ Q i k).num ≠ 0:=fun e=>h0 (Rat.num_eq_zero.1 e)
     unfold sgn
     split <;> first | decide | (rw [if_neg hn0];decide)
    have hpi:pivQ Q k P.length = i:=by
     rw [<- hpf,show N - i = (N - (i + 1)) + 1 by omega]
     unfold pivFrom
     rw [if_neg h0]
    have haN:P.length < N:=by omega
    have halt:P.length < Q.length:=by omega
    have hSeq:(Q.set P.length Q[i]).set i Q[P.length] = swapL Q P.length i:=by
     unfold swapL
     rw [List.getD_eq_getElem?_getD,List.getD_eq_getElem?_getD,List.getElem?_eq_getElem hilt,List.getElem?_eq_getElem halt]
     rfl
    have hgS:=encM_get (Q:=Q.set P.length Q[i]) (i:=i) (by rw [List.length_set];omega)
    have hSw:=swap_fits hQ haN (by omega:i < N)
    have hSe:eQ (swapL Q P.length i) P.length k = eQ Q i k:=swap_at hQ haN (by omega)
    have hstep:redTo Q0 (k + 1) = (elimTo (oneL (swapL Q P.length i) P.length k) P.length k N,P ++ [k]):=by
     rw [redTo_succ,<- hq]
     unfold stepQ
     simp only [hpi]
     rw [if_neg (by omega),hQl]
    have hBs:3 * (4 ^ P.length * (L + 1) - 1) <= 4000000:=by
     have:=Nat.mul_le_mul (Nat.pow_le_pow_right (by decide:0 < 4) (show P.length + 1 <= N from haN)) (Nat.le_refl (L + 1))
     rw [Nat.pow_succ,Nat.mul_comm _ 4,Nat.mul_assoc] at this
     omega
    generalize sgn (eQ Q i k).num = sg at *
    generalize swapL Q P.length i = S at *
    generalize eQ Q i k = x at *
    generalize hBB:4 ^ P.length * (L + 1) - 1 = B at *
    have hSl:=hSw.1
    have hSlt:P.length < S.length:=by omega
    have hrS:=hSw.2 _ (List.getElem_mem hSlt)
    have hSrl:(osl (rawV S[P.length])).length = W:=by rw [osl_rawV,List.length_map];exact hrS.1
    have hSent:∀ h:k < (osl (rawV S[P.length])).length,(osl (rawV S[P.length]))[k] = rawQ x:=fun h=>by rw [<- hSe,eQ_in hSlt (by omega)];simp only [osl_rawV,List.getElem_map]
    have hdiv:=rdiv_C (rawQ 1) (rawQ x) (fits_rawQ (fitsQ_one _ (by decide))) ((fits_rawQ hfe).mono (by omega)) (by rw [rawQ_val];exact h0)
    rw [rawQ_val,rawQ_val] at hdiv
    have hsc:=rowscale_C S[P.length] (1 / x) W B (by rw [hrS.1];exact Nat.le_refl _) hrS.2 (hfe.inv hB1 h0) (by intro e;have:=hrS.1;rw [e] at this;simp at this;omega) (by omega) hB1 (by omega)
    have hOeq:S.set P.length (scaleL S[P.length] (1 / x)) = oneL S P.length k:=by
     unfold oneL
     rw [hSe,List.getD_eq_getElem?_getD,List.getElem?_eq_getElem hSlt]
     rfl
    repeat (first | (with_reducible first | refine Way.imp ?_ | refine blk_o rfl ?_) | ((with_reducible refine WayR.imp (fun K hK=>?_));simp (disch:=first | omega | (simp only [dls];omega)) only [std,reduceIte,reduceCtorEq,iT,nA,nS,nM,iA,iS,iM,iN,fU,fR,encM_get hilt,encM_get halt,encM_get hSlt,hgS,List.length_map,List.length_set,setM,<- List.map_set,hSeq,hOeq,hSl,hrl,hent,hSrl,hSent];subst hK) | refine zcA (hsg) rfl rfl rfl ?_ | refine zcA (hint) rfl rfl rfl ?_ | refine zcA (hdiv) rfl rfl rfl ?_ | refine zcA (hsc) rfl rfl rfl ?_)
    obtain ⟨o1,o2,o3⟩:=one_fits hSw haN hkW hB1 (by rw [hSe];exact h0)
    generalize oneL S P.length k = O at *
    refine awp_loop (fun (zz:Nat)=>⟨(.junk :: .junk :: .junk :: .junk :: aI N :: aI W :: .junk :: .one (.own 0 0) :: .one (.own 1 v) :: aI k :: aI P.length :: .junk :: .junk :: .junk :: .junk :: .junk :: .junk :: .junk :: .junk :: .junk :: .junk :: .junk :: .junk :: .junk :: .junk :: aI W :: aI k :: .junk :: .junk :: .junk :: .junk :: .junk :: .junk :: .junk :: .junk :: .junk :: .junk :: .junk :: .junk :: .junk :: .junk :: .junk :: .junk :: .junk :: .junk :: .junk :: .junk :: .junk :: .junk :: .junk :: .junk :: .junk :: .junk :: .junk :: .junk :: .junk :: .junk :: .junk :: .junk :: .junk :: .junk :: .junk :: .junk :: .junk :: .junk :: .junk :: .junk :: .junk :: .junk :: .junk :: .junk :: .junk :: .junk :: .junk :: .junk :: .junk :: .junk :: .junk :: .junk :: .junk :: .junk :: .junk :: .junk :: .junk :: .junk :: .junk :: .junk :: aI N :: aI zz :: .junk :: .junk :: .junk :: .junk :: .junk :: .junk :: .junk :: .junk :: .junk :: .junk :: .junk :: .junk :: .junk :: .junk :: .junk :: .junk :: .junk :: .junk :: .junk :: .junk :: .junk :: .junk :: .junk :: .junk :: .junk :: .junk :: .junk :: .junk :: .junk :: .junk :: .junk :: .junk :: .junk :: .junk :: .junk :: .junk :: .junk :: .junk :: .junk :: .junk :: .junk :: .junk :: .junk :: .junk :: .junk :: []),[⟨0,23,1,encB fM ((elimTo O P.length k zz).map rawV),true,true⟩,⟨v,3,1,encB fI (intsN P),true,nn⟩]⟩) (fun (zz:Nat)=>zz <= N) (fun (zz:Nat)=>N - zz) (0) ?hI5 (Fgt.head (Nat.zero_le 2) (false :: false :: false :: false :: true :: true :: false :: true :: true :: true :: true :: false :: false :: false :: false :: false :: false :: false :: false :: false :: false :: false :: false :: false :: false :: true :: true :: false :: false :: false :: false :: false :: false :: false :: false :: false :: false :: false :: false :: false :: false :: false :: false :: false :: false :: false :: false :: false :: false :: false :: false :: false :: false :: false :: false :: false :: false :: false :: false :: false :: false :: false :: false :: false :: false :: false :: false :: false :: false :: false :: false :: false :: false :: false :: false :: false :: false :: false :: false :: false :: false :: false :: false :: false :: false :: false :: false :: true :: true :: []) ?hT5 ?hH5) ?hB5
    case hT5=>first | (simp (disch:=omega) only [hds,liveT,cleanAV,cleanCell,clean1,cleanBlk,reduceIte,iS,iA,iN,elimTo_zero,o1,List.length_map];done) | rfl
    case hH5=>first | (simp (disch:=omega) only [hds,liveT,cleanAV,cleanCell,clean1,cleanBlk,reduceIte,iS,iA,iN,elimTo_zero,o1,List.length_map];done) | rfl
    ·exact Nat.zero_le _
    rintro j hjN
    obtain ⟨e1,e2,e3⟩:=elim_fits o1 haN hkW o2 o3 j hjN
    by_cases hjn:j = N
    ·repeat (first | (with_reducible first | refine Way.imp ?_ | refine blk_o rfl ?_) | ((with_reducible refine WayR.imp (fun K hK=>?_));simp (disch:=first | omega | (simp only [dls];omega)) only [std,reduceIte,reduceCtorEq,iT,nA,nS,nM,iA,iS,iM,iN,fU,intsN_length];subst hK))
     refine ⟨(k + 1,elimTo O P.length k j,P ++ [k],v + 1,true),?hI6,?hM6,Fgt.head (Nat.zero_le 2) [false,false,false,false,true,true,false,true,true,false,false,false,false,false,false,false,false,false,false,false,false,false,false,false,false,true,true] ?hT6 ?hH6⟩
     case hT6=>first | (simp (disch:=omega) only [hds,liveT,cleanAV,cleanCell,clean1,cleanBlk,reduceIte,iS,iA,iN,intsN_snoc,List.isEmpty_cons,Bool.or_true,Bool.not_false];done) | rfl
     case hH6=>first | (simp (disch:=omega) only [hds,liveT,cleanAV,cleanCell,clean1,cleanBlk,reduceIte,iS,iA,iN,intsN_snoc,List.isEmpty_cons,Bool.or_true,Bool.not_false];done) | rfl
     ·dsimp only
      refine ⟨by omega,?_,by cases P <;> rfl⟩
      rw [hstep,hjn]
     ·dsimp only;omega
    ·have hM:elimTo O P.length k (j + 1) = elim1 P.length k (elimTo O P.length k j) j:=elimTo_succ _ _ _ _
     by_cases hja:j = P.length
     ·have hM1:elimTo O P.length k (j + 1) = elimTo O P.length k j:=by rw [hM];unfold elim1;rw [if_pos (.inl hja)]
      repeat (first | (with_reducible first | refine Way.imp ?_ | refine blk_o rfl ?_) | ((with_reducible refine WayR.imp (fun K hK=>?_));simp (disch:=first | omega | (simp only [dls];omega)) only [std,reduceIte,reduceCtorEq,iT,nA,nS,nM,iA,iS,iM,iN,fU];subst hK))
      refine ⟨(j + 1),?hI7,?hM7,Fgt.head (Nat.zero_le 2) (false :: false :: false :: false :: true :: true :: false :: true :: true :: true :: true :: false :: false :: false :: false :: false :: false :: false :: false :: false :: false :: false :: false :: false :: false :: true :: true :: false :: false :: false :: false :: false :: false :: false :: false :: false :: false :: false :: false :: false :: false :: false :: false :: false :: false :: false :: false :: false :: false :: false :: false :: false :: false :: false :: false :: false :: false :: false :: false :: false :: false :: false :: false :: false :: false :: false :: false :: false :: false :: false :: false :: false :: false :: false :: false :: false :: false :: false :: false :: false :: false :: false :: false :: false :: false :: false :: false :: true :: true :: []) ?hT7 ?hH7⟩
      case hT7=>first | (simp (disch:=omega) only [hds,liveT,cleanAV,cleanCell,clean1,cleanBlk,reduceIte,iS,iA,iN,hM1];done) | rfl
      case hH7=>first | (simp (disch:=omega) only [hds,liveT,cleanAV,cleanCell,clean1,cleanBlk,reduceIte,iS,iA,iN,hM1];done) | rfl
      ·omega
      ·omega
     ·have hjr:=(e3 j (by omega) hja).2 (Nat.le_refl _)
      have hrj:RowF (elimTo O P.length k j) j W B:=by unfold RowF;rw [hjr];exact o3 j (by omega) hja
      have hra:RowF (elimTo O P.length k j) P.length W (2 * B):=by unfold RowF;rw [e2];exact o2
      generalize elimTo O P.length k j = M at *
      have hjlt:j < M.length:=by omega
      have haM:P.length < M.length:=by omega
      have hgj:M.getD j [] = M[j]:=by rw [List.getD_eq_getElem?_getD,List.getElem?_eq_getElem hjlt];rfl
      have hga:M.getD P.length [] = M[P.length]:=by rw [List.getD_eq_getElem?_getD,List.getElem?_eq_getElem haM];rfl
      have hfy:=hrj.at hkW
      have hrj2:=hrj
      have hra2:=hra
      unfold RowF at hrj2 hra2
      rw [hgj] at hrj2
      rw [hga] at hra2
      have hjl:(osl (rawV M[j])).length = W:=by rw [osl_rawV,List.length_map];exact hrj2.1
      have hjent:∀ h:k < (osl (rawV M[j])).length,(osl (rawV M[j]))[k] = rawQ (eQ M j k):=fun h=>by rw [eQ_in hjlt (by omega)];simp only [osl_rawV,List.getElem_map]
      have hsgj:=rsign_C (rawQ (eQ M j k)) ((fits_rawQ hfy).mono (by omega))
      rw [rawQ_top] at hsgj
      by_cases hy:eQ M j k = 0
      ·have hM1:elimTo O P.length k (j + 1) = M:=by rw [hM];unfold elim1;rw [if_pos (.inr hy)]
       rw [hy,show sgn (0:Rat).num = 0 from rfl] at hsgj
       rw [hy] at hjent
       repeat (first | (with_reducible first | refine Way.imp ?_ | refine blk_o rfl ?_) | ((with_reducible refine WayR.imp (fun K hK=>?_));simp (disch:=first | omega | (simp only [dls];omega)) only [std,reduceIte,reduceCtorEq,iT,nA,nS,nM,iA,iS,iM,iN,fU,fR,encM_get hjlt,List.length_map,hjl,hjent];subst hK) | refine zcA (hsgj) rfl rfl rfl ?_)
       refine ⟨(j + 1),?hI8,?hM8,Fgt.head (Nat.zero_le 2) (false :: false :: false :: false :: true :: true :: false :: true :: true :: true :: true :: false :: false :: false :: false :: false :: false :: false :: false :: false :: false :: false :: false :: false :: false :: true :: true :: false :: false :: false :: false :: false :: false :: false :: false :: false :: false :: false :: false :: false :: false :: false :: false :: false :: false :: false :: false :: false :: false :: false :: false :: false :: false :: false :: false :: false :: false :: false :: false :: false :: false :: false :: false :: false :: false :: false :: false :: false :: false :: false :: false :: false :: false :: false :: false :: false :: false :: false :: false :: false :: false :: false :: false :: false :: false :: false :: false :: true :: true :: []) ?hT8 ?hH8⟩
       case hT8=>first | (simp (disch:=omega) only [hds,liveT,cleanAV,cleanCell,clean1,cleanBlk,reduceIte,iS,iA,iN,hM1];done) | rfl
       case hH8=>first | (simp (disch:=omega) only [hds,liveT,cleanAV,cleanCell,clean1,cleanBlk,reduceIte,iS,iA,iN,hM1];done) | rfl
       ·omega
       ·omega
      ·have hsn2:sgn (eQ M j k).num ≠ 0:=by
        have hn0:(eQ M j k).num ≠ 0:=fun e=>hy (Rat.num_eq_zero.1 e)
        unfold sgn
        split <;> first | decide | (rw [if_neg hn0];decide)
       have hM1:elimTo O P.length k (j + 1) = M.set j (addL M[j] (scaleL M[P.length] (-(eQ M j k)))):=by
        rw [hM];unfold elim1;rw [if_neg (fun h=>h.elim hja hy),hgj,hga]
       have hneg:=rneg_C (rawQ (eQ M j k)) ((fits_rawQ hfy).mono (by omega))
       rw [rawQ_val] at hneg
       have hsc2:=rowscale_C M[P.length] (-(eQ M j k)) W (2 * B) (by rw [hra2.1];exact Nat.le_refl _) hra2.2 (hfy.neg.mono (by omega)) (by intro e;have:=hra2.1;rw [e] at this;simp at this;omega) (by omega) (by omega) (by omega)
       have hadd:=rowadd_C M[j] (scaleL M[P.length] (-(eQ M j k))) W (3 * B) (by unfold scaleL;rw [List.length_map,hra2.1,hrj2.1]) (by rw [hrj2.1];exact Nat.le_refl _) (fun q hq=>(hrj2.2 q hq).mono (by omega)) (fun q hq=>(fits_scaleL hra2.2 hfy.neg q hq).mono (by omega)) (by intro e;have:=hrj2.1;rw [e] at this;simp at this;omega) (by omega) (by omega) hBs
       generalize sgn (eQ M j k).num = sg2 at *
       generalize eQ M j k = y at *
       repeat (first | (with_reducible first | refine Way.imp ?_ | refine blk_o rfl ?_) | ((with_reducible refine WayR.imp (fun K hK=>?_));simp (disch:=first | omega | (simp only [dls];omega)) only [std,reduceIte,reduceCtorEq,iT,nA,nS,nM,iA,iS,iM,iN,fU,fR,encM_get hjlt,encM_get haM,List.length_map,setM,<- List.map_set,hjl,hjent];subst hK) | refine zcA (hsgj) rfl rfl rfl ?_ | refine zcA (hneg) rfl rfl rfl ?_ | refine zcA (hsc2) rfl rfl rfl ?_ | refine zcA (hadd) rfl rfl rfl ?_)
       refine ⟨(j + 1),?hI9,?hM9,Fgt.head (Nat.zero_le 2) (false :: false :: false :: false :: true :: true :: false :: true :: true :: true :: true :: false :: false :: false :: false :: false :: false :: false :: false :: false :: false :: false :: false :: false :: false :: true :: true :: false :: false :: false :: false :: false :: false :: false :: false :: false :: false :: false :: false :: false :: false :: false :: false :: false :: false :: false :: false :: false :: false :: false :: false :: false :: false :: false :: false :: false :: false :: false :: false :: false :: false :: false :: false :: false :: false :: false :: false :: false :: false :: false :: false :: false :: false :: false :: false :: false :: false :: false :: false :: false :: false :: false :: false :: false :: false :: false :: false :: true :: true :: []) ?hT9 ?hH9⟩
       case hT9=>first | (simp (disch:=omega) only [hds,liveT,cleanAV,cleanCell,clean1,cleanBlk,reduceIte,iS,iA,iN,hM1];done) | rfl
       case hH9=>first | (simp (disch:=omega) only [hds,liveT,cleanAV,cleanCell,clean1,cleanBlk,reduceIte,iS,iA,iN,hM1];done) | rfl
       ·omega
       ·omega
end Go.Proofs.Ytncgbjhojbnecaa
