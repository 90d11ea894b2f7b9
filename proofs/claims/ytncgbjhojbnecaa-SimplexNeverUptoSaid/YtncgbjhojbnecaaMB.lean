/- Walks of lin: Rank, Apply. -/
import Derived.Test.YtncgbjhojbnecaaA5
import Derived.Test.YtncgbjhojbnecaaB0
import Derived.Test.YtncgbjhojbnecaaMA
import Derived.Test.YtncgbjhojbnecaaVK
set_option linter.unusedSimpArgs false
set_option linter.unusedVariables false
set_option linter.unnecessarySimpa false
set_option maxRecDepth 100000
set_option maxHeartbeats 4000000
namespace Go.Proofs.Ytncgbjhojbnecaa
open Go Go.Am Go.Proofs Go.RowKit Go.Off
open Nat renaming reduceAdd -> nA,reduceSub -> nS,reduceMul -> nM,reduceBEq -> nB
open Int renaming reduceToNat -> iT,reduceAdd -> iA,reduceSub -> iS,reduceMul -> iM,reduceNeg -> iN
abbrev c29:CC:=(.seq (.reg [⟨some 2,none,.mv (.const (.int .i64 (0)))⟩]) (.seq (.reg [⟨some 6,none,.mv (.tmp 0)⟩,⟨some 7,none,.callf (.func 66) [(.tmp 6)]⟩,⟨some 5,none,.mv (.tmp 7)⟩,⟨some 8,none,.ext (.tmp 5) 0⟩,⟨some 9,none,.ext (.tmp 5) 1⟩,⟨some 3,none,.mv (.tmp 8)⟩,⟨some 4,none,.mv (.tmp 9)⟩]) (.seq (.reg [⟨some 10,none,.mv (.tmp 4)⟩,⟨some 11,none,.len false (.tmp 10)⟩,⟨some 2,none,.mv (.tmp 11)⟩]) .ret)))
theorem cc29:ccode Try.prog [] (Try.f29.body.getD .skip) = some c29:=by kernel_rfl
theorem body29:Try.f29.body = some (Try.f29.body.getD .skip):=rfl
def rankQ (m:MM):Nat:=if okM m then (redTo (qM m) (cols m)).2.length else 0
theorem rank_C (m:MM) (n L:Nat) (hm:FitsM m n L) (hn:n <= 1000000) (hL:1 <= L) (hB:4 ^ (osl m).length * (L + 1) <= 4000000) :
  PureC Try.prog 29 [aM m] (.ret (aI (rankQ m:Nat))):=by
 unfold rankQ
 by_cases hk:okM m = true
 ·have hr:=reduce_C m n L hm hn hL hk hB
  rw [if_pos hk]
  have hl:((osl (rowO (intsN (redTo (qM m) (cols m)).2))).length:Nat) = (redTo (qM m) (cols m)).2.length:=by rw [osl_rowO,intsN_length]
  generalize (redTo (qM m) (cols m)) = S at *
  refine pureC_of (rs:=[(RV.tmp 2)]) Try.func29 (fun a w=>Try.call29 a w) body29 cc29 (by kernel_rfl) ?_
  rw [Try.ntmps29]
  simp only [frs,nA,nS]
  repeat (first | (with_reducible first | refine Way.imp ?_ | refine blk_o rfl ?_) | ((with_reducible refine WayR.imp (fun K hK=>?_));simp (disch:=first | omega | (simp only [dls];omega)) only [std,reduceIte,reduceCtorEq,iT,nA,nS,nM,iA,iS,iM,iN,fU,hl];subst hK) | refine zcA (hr) rfl rfl rfl ?_)
  exact ⟨_,rfl,rfl⟩
 ·have hk':okM m = false:=by simpa using hk
  have hr:=reduce_no m (by have:=hm.1;omega) hk'
  rw [if_neg hk]
  refine pureC_of (rs:=[(RV.tmp 2)]) Try.func29 (fun a w=>Try.call29 a w) body29 cc29 (by kernel_rfl) ?_
  rw [Try.ntmps29]
  simp only [frs,nA,nS]
  repeat (first | (with_reducible first | refine Way.imp ?_ | refine blk_o rfl ?_) | ((with_reducible refine WayR.imp (fun K hK=>?_));simp (disch:=first | omega | (simp only [dls];omega)) only [std,reduceIte,reduceCtorEq,iT,nA,nS,nM,iA,iS,iM,iN,fU];subst hK) | refine zcA (hr) rfl rfl rfl ?_)
  exact ⟨_,rfl,rfl⟩
def applyQ (m:MM) (x:VV):List Rat:=(osl m).map fun v=>dotV v x
def colQ (m:MM) (k i:Nat):List Rat:=(List.range i).map fun j=>qAt (mAt m j) k
def turnQ (m:MM):QM:=(List.range (cols m)).map fun k=>colQ m k (osl m).length
theorem colQ_succ (m:MM) (k i:Nat):colQ m k (i + 1) = colQ m k i ++ [qAt (mAt m i) k]:=by unfold colQ;rw [List.range_succ,List.map_append];rfl
abbrev c31_k1:CC:=(.seq (.reg [⟨some 49,none,.mv (.tmp 6)⟩,⟨some 2,none,.mv (.tmp 49)⟩]) .ret)
abbrev c31_k2:CC:=(.reg [⟨some 48,none,.bin .add (.tmp 20) (.const (.int .i64 (1)))⟩,⟨some 20,none,.mv (.tmp 48)⟩])
abbrev c31_k3:CC:=(.reg [⟨some 44,none,.mv (.tmp 6)⟩,⟨some 45,none,.mv (.tmp 8)⟩,⟨some 46,none,.mkrow 23 1 [(.tmp 45)]⟩,⟨some 47,none,.append 23 1 24 (.tmp 44) (.tmp 46)⟩,⟨some 6,none,.mv (.tmp 47)⟩])
abbrev c31_b1:CC:=(.seq (.reg [⟨some 26,none,.bin .lss (.tmp 25) (.tmp 24)⟩]) (.seq (.cond (.tmp 26) .skip (.exit 2)) (.seq (.block 3 (.seq (.reg [⟨some 27,none,.iaddr 1 none (.tmp 23) (.tmp 25)⟩,⟨some 28,none,.load 1 false (.tmp 27)⟩,⟨some 10,none,.mv (.tmp 28)⟩]) (.reg [⟨some 29,none,.mv (.tmp 8)⟩,⟨some 30,none,.mv (.tmp 10)⟩,⟨some 31,none,.mv (.tmp 7)⟩,⟨some 32,none,.iaddr 3 none (.tmp 30) (.tmp 31)⟩,⟨some 33,none,.faddr 0 (.tmp 32)⟩,⟨some 34,none,.load 2 true (.tmp 33)⟩,⟨some 35,none,.mv (.tmp 10)⟩,⟨some 36,none,.mv (.tmp 7)⟩,⟨some 37,none,.iaddr 3 none (.tmp 35) (.tmp 36)⟩,⟨some 38,none,.faddr 2 (.tmp 37)⟩,⟨some 39,none,.load 1 false (.tmp 38)⟩,⟨some 40,none,.callf (.func 47) [(.tmp 34),(.tmp 39)]⟩,⟨some 41,none,.mkrow 41 3 [(.tmp 40)]⟩,⟨some 42,none,.append 41 3 56 (.tmp 29) (.tmp 41)⟩,⟨some 8,none,.mv (.tmp 42)⟩]))) (.reg [⟨some 43,none,.bin .add (.tmp 25) (.const (.int .i64 (1)))⟩,⟨some 25,none,.mv (.tmp 43)⟩]))))
abbrev c31_b2:CC:=(.seq (.reg [⟨some 21,none,.bin .lss (.tmp 20) (.tmp 19)⟩]) (.seq (.cond (.tmp 21) .skip (.exit 0)) (.seq (.block 1 (.seq (.reg [⟨some 22,none,.mv (.tmp 20)⟩,⟨some 7,none,.mv (.tmp 22)⟩]) (.seq (.reg [⟨some 8,none,.mv (.const (.slice none 0 0))⟩]) (.seq (.seq (.reg [⟨some 23,none,.mv (.tmp 0)⟩,⟨some 24,none,.len false (.tmp 23)⟩,⟨some 25,none,.mv (.const (.int .i64 (0)))⟩]) (.block 2 (.loop c31_b1))) c31_k3)))) c31_k2)))
abbrev c31:CC:=(.seq (.reg [⟨some 2,none,.mv (.const (.slice none 0 0))⟩]) (.seq (.reg [⟨some 12,none,.mv (.tmp 0)⟩,⟨some 13,none,.callf (.func 67) [(.tmp 12)]⟩,⟨some 11,none,.mv (.tmp 13)⟩,⟨some 14,none,.ext (.tmp 11) 0⟩,⟨some 15,none,.ext (.tmp 11) 1⟩,⟨some 16,none,.ext (.tmp 11) 2⟩,⟨some 3,none,.mv (.tmp 14)⟩,⟨some 4,none,.mv (.tmp 15)⟩,⟨some 5,none,.mv (.tmp 16)⟩]) (.seq (.seq (.reg [⟨some 17,none,.mv (.tmp 5)⟩,⟨some 18,none,.un .not (.tmp 17)⟩]) (.cond (.tmp 18) (.seq (.reg [⟨some 2,none,.mv (.const (.slice none 0 0))⟩]) .ret) .skip)) (.seq (.reg [⟨some 6,none,.mv (.const (.slice none 0 0))⟩]) (.seq (.seq (.reg [⟨some 19,none,.mv (.tmp 4)⟩,⟨some 20,none,.mv (.const (.int .i64 (0)))⟩]) (.block 0 (.loop c31_b2))) c31_k1)))))
theorem cc31:ccode Try.prog [] (Try.f31.body.getD .skip) = some c31:=by kernel_rfl
theorem body31:Try.f31.body = some (Try.f31.body.getD .skip):=rfl
theorem turn_no (m:MM) (hm:(osl m).length <= 1000000) (hk:okM m = false):PureC Try.prog 31 [aM m] (.ret (aM none)):=by
 have hs:=sides_C m hm
 unfold sidesV at hs
 rw [hk,if_neg (by simp)] at hs
 refine pureC_of (rs:=[(RV.tmp 2)]) Try.func31 (fun a w=>Try.call31 a w) body31 cc31 (by kernel_rfl) ?_
 rw [Try.ntmps31]
 simp only [frs,nA,nS]
 repeat (first | (with_reducible first | refine Way.imp ?_ | refine blk_o rfl ?_) | ((with_reducible refine WayR.imp (fun K hK=>?_));simp (disch:=first | omega | (simp only [dls];omega)) only [std,reduceIte,reduceCtorEq,iT,nA,nS,nM,iA,iS,iM,iN,fU];subst hK) | refine zcA (hs) rfl rfl rfl ?_)
 exact ⟨_,rfl,rfl⟩
theorem turn_yes (m:MM) (n L:Nat) (hm:FitsM m n L) (hn:n <= 1000000) (hL2:L <= 1000000) (hk:okM m = true) :
  PureC Try.prog 31 [aM m] (.fresh 23 1 (((turnQ m).map rawV).map fM) (!((turnQ m).map rawV).isEmpty)):=by
 have hm1:=hm.1
 have hs:=sides_C m (by omega)
 unfold sidesV at hs
 rw [hk,if_pos rfl] at hs
 have hk':=hk
 unfold okM at hk'
 simp only [Bool.and_eq_true,decide_eq_true_eq] at hk'
 have hN0:(osl m).length = 0 -> cols m = 0:=fun h0=>by unfold cols mAt;rw [List.length_eq_zero_iff.1 h0];rfl
 unfold turnQ
 generalize hW:cols m = W at *
 refine pureC_of (rs:=[(RV.tmp 2)]) Try.func31 (fun a w=>Try.call31 a w) body31 cc31 (by kernel_rfl) ?_
 rw [Try.ntmps31]
 simp only [frs,nA,nS]
 repeat (first | (with_reducible first | refine Way.imp ?_ | refine blk_o rfl ?_) | ((with_reducible refine WayR.imp (fun K hK=>?_));simp (disch:=first | omega | (simp only [dls];omega)) only [std,reduceIte,reduceCtorEq,iT,nA,nS,nM,iA,iS,iM,iN,fU];subst hK) | refine zcA (hs) rfl rfl rfl ?_)
 refine AWp.fgt ?_ (Fgt.openNil (i:=6) rfl 23 1)
 simp only [List.set_cons_succ,List.set_cons_zero,List.length_nil,List.length_cons,List.nil_append,List.cons_append,nA]
 refine awp_loop (fun (zz:Nat × QM × Nat × Bool)=>⟨(aM m :: .junk :: .junk :: .junk :: .junk :: .junk :: .one (.own 0 zz.2.2.1) :: .junk :: .junk :: .junk :: .junk :: .junk :: .junk :: .junk :: .junk :: .junk :: .junk :: .junk :: .junk :: aI W :: aI zz.1 :: .junk :: .junk :: .junk :: .junk :: .junk :: .junk :: .junk :: .junk :: .junk :: .junk :: .junk :: .junk :: .junk :: .junk :: .junk :: .junk :: .junk :: .junk :: .junk :: .junk :: .junk :: .junk :: .junk :: .junk :: .junk :: .junk :: .junk :: .junk :: .junk :: []),[⟨zz.2.2.1,23,1,encB fM (zz.2.1.map rawV),true,zz.2.2.2⟩]⟩) (fun (zz:Nat × QM × Nat × Bool)=>zz.1 <= W /\ zz.2.1 = (List.range zz.1).map (fun j=>colQ m j (osl m).length) /\ zz.2.2.2 = !(zz.2.1.map rawV).isEmpty) (fun (zz:Nat × QM × Nat × Bool)=>W - zz.1) (0,[],0,false) ?hI1 (Fgt.head (Nat.zero_le 1) [true,false,false,false,false,false,true,false,false,false,false,false,false,false,false,false,false,false,false,true,true] ?hT1 ?hH1) ?hB1
 case hT1=>first | (simp (disch:=omega) only [hds,liveT,cleanAV,cleanCell,clean1,cleanBlk,reduceIte,iS,iA,iN,encB_nil,List.map_nil];done) | rfl
 case hH1=>first | (simp (disch:=omega) only [hds,liveT,cleanAV,cleanCell,clean1,cleanBlk,reduceIte,iS,iA,iN,encB_nil,List.map_nil];done) | rfl
 ·dsimp only;exact ⟨by omega,rfl,rfl⟩
 rintro ⟨k,out,u,nn⟩ ⟨hi,ho,hnn⟩
 dsimp only at hi ho hnn
 by_cases hkW:k = W
 ·repeat (first | (with_reducible first | refine Way.imp ?_ | refine blk_o rfl ?_) | ((with_reducible refine WayR.imp (fun K hK=>?_));simp (disch:=first | omega | (simp only [dls];omega)) only [std,reduceIte,reduceCtorEq,iT,nA,nS,nM,iA,iS,iM,iN,fU];subst hK))
  refine ⟨_,rfl,?_⟩
  rw [<- hkW,<- ho,<- hnn]
  exact Ends.fresh_enc rfl
 ·have hN:(osl m).length ≠ 0:=fun e=>by have:=hN0 e;omega
  repeat (first | (with_reducible first | refine Way.imp ?_ | refine blk_o rfl ?_) | ((with_reducible refine WayR.imp (fun K hK=>?_));simp (disch:=first | omega | (simp only [dls];omega)) only [std,reduceIte,reduceCtorEq,iT,nA,nS,nM,iA,iS,iM,iN,fU];subst hK))
  refine AWp.fgt ?_ (Fgt.openNil (i:=8) rfl 41 3)
  simp only [List.set_cons_succ,List.set_cons_zero,List.length_nil,List.length_cons,List.nil_append,List.cons_append,nA]
  refine awp_loop (fun (zz:Nat × (List RR) × Nat × Bool)=>⟨(aM m :: .junk :: .junk :: .junk :: .junk :: .junk :: .one (.own 0 u) :: aI k :: .one (.own 1 zz.2.2.1) :: .junk :: .junk :: .junk :: .junk :: .junk :: .junk :: .junk :: .junk :: .junk :: .junk :: aI W :: aI k :: .junk :: .junk :: aM m :: aI (osl m).length :: aI zz.1 :: .junk :: .junk :: .junk :: .junk :: .junk :: .junk :: .junk :: .junk :: .junk :: .junk :: .junk :: .junk :: .junk :: .junk :: .junk :: .junk :: .junk :: .junk :: .junk :: .junk :: .junk :: .junk :: .junk :: .junk :: []),[⟨u,23,1,encB fM (out.map rawV),true,nn⟩,⟨zz.2.2.1,41,3,encB fR zz.2.1,true,zz.2.2.2⟩]⟩) (fun (zz:Nat × (List RR) × Nat × Bool)=>zz.1 <= (osl m).length /\ zz.2.1 = (colQ m k zz.1).map rawQ /\ zz.2.2.2 = !zz.2.1.isEmpty) (fun (zz:Nat × (List RR) × Nat × Bool)=>(osl m).length - zz.1) (0,[],0,false) ?hI2 (Fgt.head (Nat.zero_le 2) [true,false,false,false,false,false,true,true,true,false,false,false,false,false,false,false,false,false,false,true,true,false,false,true,true,true] ?hT2 ?hH2) ?hB2
  case hT2=>first | (simp (disch:=omega) only [hds,liveT,cleanAV,cleanCell,clean1,cleanBlk,reduceIte,iS,iA,iN,encB_nil];done) | rfl
  case hH2=>first | (simp (disch:=omega) only [hds,liveT,cleanAV,cleanCell,clean1,cleanBlk,reduceIte,iS,iA,iN,encB_nil];done) | rfl
  ·dsimp only;exact ⟨by omega,rfl,rfl⟩
  rintro ⟨i,r,v,rn⟩ ⟨hi2,hr,hrn⟩
  dsimp only at hi2 hr hrn
  have hrl:r.length = i:=by rw [hr,List.length_map];unfold colQ;rw [List.length_map,List.length_range]
  have hol:out.length = k:=by rw [ho,List.length_map,List.length_range]
  by_cases hin:i = (osl m).length
  ·have hrt:rn = true:=by
    rw [hrn]
    cases r with
    | nil=>simp at hrl;omega
    | cons a b=>rfl
   subst hrt
   repeat (first | (with_reducible first | refine Way.imp ?_ | refine blk_o rfl ?_) | ((with_reducible refine WayR.imp (fun K hK=>?_));simp (disch:=first | omega | (simp only [dls];omega)) only [std,reduceIte,reduceCtorEq,iT,nA,nS,nM,iA,iS,iM,iN,fU,List.length_map];subst hK))
   refine ⟨(k + 1,out ++ [colQ m k (osl m).length],u + 1,true),⟨by dsimp only;omega,?_,?_⟩,by dsimp only;omega,Fgt.trans (Fgt.cellSnoc (b:=0) (c:=1) (l:=out.map rawV) (x:=rawV (colQ m k (osl m).length)) rfl rfl (by decide) ?_ (by decide)) ?_⟩
   ·dsimp only
    rw [ho,List.range_succ,List.map_append]
    rfl
   ·dsimp only;cases out <;> rfl
   ·rw [hr,hin];rfl
   ·rw [freeze_from]
    simp only [fzl,nB,nA,Bool.false_eq_true,if_true,if_false,reduceIte,List.set_cons_zero]
    have hmap:(out ++ [colQ m k (osl m).length]).map rawV = out.map rawV ++ [rawV (colQ m k (osl m).length)]:=by rw [List.map_append];rfl
    refine Fgt.head (Nat.zero_le 1) [true,false,false,false,false,false,true,false,false,false,false,false,false,false,false,false,false,false,false,true,true] ?hT ?hH
    case hT=>first | (simp (disch:=omega) only [hds,liveT,cleanAV,cleanCell,clean1,cleanBlk,reduceIte,iS,iA,iN];done) | rfl
    case hH=>first | (simp (disch:=omega) only [hds,liveT,cleanAV,cleanCell,clean1,cleanBlk,reduceIte,iS,iA,iN,hmap,List.isEmpty_cons,Bool.or_true,Bool.not_false];done) | rfl
  ·have hlt:i < (osl m).length:=by omega
   have hrow:(osl (osl m)[i]).length = W:=by have:=rectTo_at hk'.1 hlt;rw [mAt_in hlt,hW] at this;exact this
   have hkl:k < (osl (osl m)[i]).length:=by omega
   have fi:=(hm.2 _ (List.getElem_mem hlt)).2 _ (List.getElem_mem hkl)
   have hmk:=rmake_C (RRnum (osl (osl m)[i])[k]) (osl (osl m)[i])[k].den (Nat.le_trans fi.1 (by omega)) (Nat.le_trans fi.2 (by omega))
   rw [num_top,denR_bot] at hmk
   change PureC _ _ _ (.ret (aR (rawQ (osl (osl m)[i])[k].val))) at hmk
   repeat (first | (with_reducible first | refine Way.imp ?_ | refine blk_o rfl ?_) | ((with_reducible refine WayR.imp (fun K hK=>?_));simp (disch:=first | omega | (simp only [dls];omega)) only [std,reduceIte,reduceCtorEq,iT,nA,nS,nM,iA,iS,iM,iN,fU,fM,fR];subst hK) | refine zcA (hmk) rfl rfl rfl ?_)
   refine ⟨(i + 1,r ++ [rawQ (osl (osl m)[i])[k].val],v + 1,true),?hI3,?hM3,Fgt.head (Nat.zero_le 2) [true,false,false,false,false,false,true,true,true,false,false,false,false,false,false,false,false,false,false,true,true,false,false,true,true,true] ?hT3 ?hH3⟩
   case hT3=>first | (simp (disch:=omega) only [hds,liveT,cleanAV,cleanCell,clean1,cleanBlk,reduceIte,iS,iA,iN,encB_snoc_row,List.isEmpty_cons,Bool.or_true,Bool.not_false];done) | rfl
   case hH3=>first | (simp (disch:=omega) only [hds,liveT,cleanAV,cleanCell,clean1,cleanBlk,reduceIte,iS,iA,iN,encB_snoc_row,List.isEmpty_cons,Bool.or_true,Bool.not_false];done) | rfl
   ·dsimp only
    refine ⟨by omega,?_,by simp⟩
    rw [hr,colQ_succ,List.map_append,mAt_in hlt]
    unfold qAt
    rw [rAt_in hkl]
    rfl
   ·dsimp only;omega
def augV (v:VV) (r:RR):VV:=some (osl v ++ [r])
def augTo (m:MM) (b:VV) (k:Nat):List VV:=(List.range k).map fun i=>augV (mAt m i) (rAt b i)
def augM (m:MM) (b:VV):MM:=rowO (augTo m b (osl m).length)
theorem augTo_succ (m:MM) (b:VV) (k:Nat):augTo m b (k + 1) = augTo m b k ++ [augV (mAt m k) (rAt b k)]:=by unfold augTo;rw [List.range_succ,List.map_append];rfl
theorem encBack {α:Type} (f:α -> List CV) (l:List α):(l.map f).map (fun x=>x.map Cell.c) = encB f l:=(encB_eq l).symm
abbrev c30_k1:CC:=(.seq (.reg [⟨some 98,none,.mv (.tmp 14)⟩,⟨some 4,none,.mv (.tmp 98)⟩,⟨some 5,none,.mv (.const (.int .i64 (0)))⟩]) .ret)
abbrev c30_b1:CC:=(.seq (.reg [⟨some 87,none,.bin .lss (.tmp 86) (.tmp 85)⟩]) (.seq (.cond (.tmp 87) .skip (.exit 2)) (.seq (.block 3 (.seq (.reg [⟨some 88,none,.iaddr 1 none (.tmp 84) (.tmp 86)⟩,⟨some 89,none,.load 1 false (.tmp 88)⟩,⟨some 16,none,.mv (.tmp 89)⟩]) (.reg [⟨some 90,none,.mv (.tmp 14)⟩,⟨some 91,none,.mv (.tmp 16)⟩,⟨some 92,none,.mv (.tmp 6)⟩,⟨some 93,none,.iaddr 3 none (.tmp 91) (.tmp 92)⟩,⟨some 94,none,.load 3 true (.tmp 93)⟩,⟨some 95,none,.mkrow 41 3 [(.tmp 94)]⟩,⟨some 96,none,.append 41 3 56 (.tmp 90) (.tmp 95)⟩,⟨some 14,none,.mv (.tmp 96)⟩]))) (.reg [⟨some 97,none,.bin .add (.tmp 86) (.const (.int .i64 (1)))⟩,⟨some 86,none,.mv (.tmp 97)⟩]))))
abbrev c30_k2:CC:=(.seq (.reg [⟨some 62,none,.mv (.tmp 9)⟩,⟨some 63,none,.callf (.func 66) [(.tmp 62)]⟩,⟨some 61,none,.mv (.tmp 63)⟩,⟨some 64,none,.ext (.tmp 61) 0⟩,⟨some 65,none,.ext (.tmp 61) 1⟩,⟨some 12,none,.mv (.tmp 64)⟩,⟨some 13,none,.mv (.tmp 65)⟩]) (.seq (.seq (.reg [⟨some 66,none,.mv (.tmp 13)⟩,⟨some 67,none,.len false (.tmp 66)⟩,⟨some 68,none,.mv (.tmp 6)⟩,⟨some 69,none,.bin .lss (.tmp 67) (.tmp 68)⟩,⟨some 70,none,.mv (.tmp 69)⟩,⟨some 71,(some (70,false)),.mv (.tmp 6)⟩,⟨some 72,(some (70,false)),.bin .gtr (.tmp 71) (.const (.int .i64 (0)))⟩,⟨some 73,(some (70,false)),.mv (.tmp 72)⟩,⟨some 74,(some (73,true)),.mv (.tmp 13)⟩,⟨some 75,(some (73,true)),.mv (.tmp 6)⟩,⟨some 76,(some (73,true)),.bin .sub (.tmp 75) (.const (.int .i64 (1)))⟩,⟨some 77,(some (73,true)),.iaddr 1 none (.tmp 74) (.tmp 76)⟩,⟨some 78,(some (73,true)),.load 1 false (.tmp 77)⟩,⟨some 79,(some (73,true)),.mv (.tmp 6)⟩,⟨some 80,(some (73,true)),.bin .sub (.tmp 79) (.const (.int .i64 (1)))⟩,⟨some 81,(some (73,true)),.bin .neq (.tmp 78) (.tmp 80)⟩,⟨some 82,(some (70,false)),.pick (.tmp 73) (.tmp 81) (.const (.bool false))⟩,⟨some 83,none,.pick (.tmp 70) (.const (.bool true)) (.tmp 82)⟩]) (.cond (.tmp 83) (.seq (.reg [⟨some 4,none,.mv (.const (.slice none 0 0))⟩,⟨some 5,none,.mv (.const (.int .i64 (8)))⟩]) .ret) .skip)) (.seq (.reg [⟨some 14,none,.mv (.const (.slice none 0 0))⟩]) (.seq (.seq (.reg [⟨some 84,none,.mv (.tmp 12)⟩,⟨some 85,none,.len false (.tmp 84)⟩,⟨some 86,none,.mv (.const (.int .i64 (0)))⟩]) (.block 2 (.loop c30_b1))) c30_k1))))
abbrev c30_b2:CC:=(.seq (.reg [⟨some 43,none,.bin .lss (.tmp 42) (.tmp 41)⟩]) (.seq (.cond (.tmp 43) .skip (.exit 0)) (.seq (.block 1 (.seq (.reg [⟨some 44,none,.mv (.tmp 42)⟩,⟨some 45,none,.iaddr 1 none (.tmp 40) (.tmp 42)⟩,⟨some 46,none,.load 1 false (.tmp 45)⟩,⟨some 10,none,.mv (.tmp 44)⟩,⟨some 11,none,.mv (.tmp 46)⟩]) (.regn false [⟨some 47,none,.mv (.tmp 9)⟩,⟨some 48,none,.mv (.tmp 11)⟩,⟨some 49,none,.mv (.tmp 7)⟩,⟨some 50,none,.mv (.tmp 7)⟩,⟨some 51,none,.cutc 3 (.tmp 48) none (some (.tmp 49)) (some (.tmp 50))⟩,⟨some 52,none,.mv (.tmp 1)⟩,⟨some 53,none,.mv (.tmp 10)⟩,⟨some 54,none,.iaddr 3 none (.tmp 52) (.tmp 53)⟩,⟨some 55,none,.load 3 true (.tmp 54)⟩,⟨some 56,none,.mkrowc 3 [(.tmp 55)]⟩,⟨some 57,none,.append 41 3 56 (.tmp 51) (.tmp 56)⟩,⟨some 58,none,.mkrow 23 1 [(.tmp 57)]⟩,⟨some 59,none,.append 23 1 24 (.tmp 47) (.tmp 58)⟩,⟨some 9,none,.mv (.tmp 59)⟩]))) (.reg [⟨some 60,none,.bin .add (.tmp 42) (.const (.int .i64 (1)))⟩,⟨some 42,none,.mv (.tmp 60)⟩]))))
abbrev c30:CC:=(.seq (.reg [⟨some 4,none,.mv (.const (.slice none 0 0))⟩,⟨some 5,none,.mv (.const (.int .i64 (0)))⟩]) (.seq (.reg [⟨some 18,none,.mv (.tmp 0)⟩,⟨some 19,none,.callf (.func 67) [(.tmp 18)]⟩,⟨some 17,none,.mv (.tmp 19)⟩,⟨some 20,none,.ext (.tmp 17) 0⟩,⟨some 21,none,.ext (.tmp 17) 1⟩,⟨some 22,none,.ext (.tmp 17) 2⟩,⟨some 6,none,.mv (.tmp 20)⟩,⟨some 7,none,.mv (.tmp 21)⟩,⟨some 8,none,.mv (.tmp 22)⟩]) (.seq (.seq (.reg [⟨some 23,none,.mv (.tmp 8)⟩,⟨some 24,none,.un .not (.tmp 23)⟩,⟨some 25,none,.mv (.tmp 24)⟩,⟨some 26,(some (25,false)),.mv (.tmp 6)⟩,⟨some 27,(some (25,false)),.mv (.tmp 7)⟩,⟨some 28,(some (25,false)),.bin .neq (.tmp 26) (.tmp 27)⟩,⟨some 29,none,.pick (.tmp 25) (.const (.bool true)) (.tmp 28)⟩,⟨some 30,none,.mv (.tmp 29)⟩,⟨some 31,(some (30,false)),.mv (.tmp 1)⟩,⟨some 32,(some (30,false)),.len false (.tmp 31)⟩,⟨some 33,(some (30,false)),.mv (.tmp 6)⟩,⟨some 34,(some (30,false)),.bin .neq (.tmp 32) (.tmp 33)⟩,⟨some 35,none,.pick (.tmp 30) (.const (.bool true)) (.tmp 34)⟩,⟨some 36,none,.mv (.tmp 35)⟩,⟨some 37,(some (36,false)),.mv (.tmp 6)⟩,⟨some 38,(some (36,false)),.bin .geq (.tmp 37) (.const (.int .i64 (200)))⟩,⟨some 39,none,.pick (.tmp 36) (.const (.bool true)) (.tmp 38)⟩]) (.cond (.tmp 39) (.seq (.reg [⟨some 4,none,.mv (.const (.slice none 0 0))⟩,⟨some 5,none,.mv (.const (.int .i64 (7)))⟩]) .ret) .skip)) (.seq (.reg [⟨some 9,none,.mv (.const (.slice none 0 0))⟩]) (.seq (.seq (.reg [⟨some 40,none,.mv (.tmp 0)⟩,⟨some 41,none,.len false (.tmp 40)⟩,⟨some 42,none,.mv (.const (.int .i64 (0)))⟩]) (.block 0 (.loop c30_b2))) c30_k2)))))
theorem cc30:ccode Try.prog [] (Try.f30.body.getD .skip) = some c30:=by kernel_rfl
theorem body30:Try.f30.body = some (Try.f30.body.getD .skip):=rfl
theorem solve_size (m:MM) (b:VV) (hm:(osl m).length <= 1000000) (hb:(osl b).length <= 1000000) (hk:okM m = false \/ (osl m).length ≠ cols m \/ (osl b).length ≠ (osl m).length \/ 200 <= (osl m).length) :
  PureC Try.prog 30 [aM m,aV b] (.ret (.tup [aV none,aI 7])):=by
 have hs:=sides_C m hm
 unfold sidesV at hs
 by_cases hk':okM m = true
 ·rw [hk',if_pos rfl] at hs
  replace hk:=hk.resolve_left (by rw [hk'];simp)
  by_cases h1:(osl m).length = cols m
  ·rw [<- h1] at hs
   replace hk:=hk.resolve_left (by omega)
   by_cases h2:(osl b).length = (osl m).length
   ·replace hk:=hk.resolve_left (by omega)
    refine pureC_of (rs:=[(RV.tmp 4),(RV.tmp 5)]) Try.func30 (fun a w=>Try.call30 a w) body30 cc30 (by kernel_rfl) ?_
    rw [Try.ntmps30]
    simp only [frs,nA,nS]
    repeat (first | (with_reducible first | refine Way.imp ?_ | refine blk_o rfl ?_) | ((with_reducible refine WayR.imp (fun K hK=>?_));simp (disch:=first | omega | (simp only [dls];omega)) only [std,reduceIte,reduceCtorEq,iT,nA,nS,nM,iA,iS,iM,iN,fU,h2];subst hK) | refine zcA (hs) rfl rfl rfl ?_)
    exact ⟨_,rfl,rfl⟩
   ·refine pureC_of (rs:=[(RV.tmp 4),(RV.tmp 5)]) Try.func30 (fun a w=>Try.call30 a w) body30 cc30 (by kernel_rfl) ?_
    rw [Try.ntmps30]
    simp only [frs,nA,nS]
    repeat (first | (with_reducible first | refine Way.imp ?_ | refine blk_o rfl ?_) | ((with_reducible refine WayR.imp (fun K hK=>?_));simp (disch:=first | omega | (simp only [dls];omega)) only [std,reduceIte,reduceCtorEq,iT,nA,nS,nM,iA,iS,iM,iN,fU];subst hK) | refine zcA (hs) rfl rfl rfl ?_)
    exact ⟨_,rfl,rfl⟩
  ·refine pureC_of (rs:=[(RV.tmp 4),(RV.tmp 5)]) Try.func30 (fun a w=>Try.call30 a w) body30 cc30 (by kernel_rfl) ?_
   rw [Try.ntmps30]
   simp only [frs,nA,nS]
   repeat (first | (with_reducible first | refine Way.imp ?_ | refine blk_o rfl ?_) | ((with_reducible refine WayR.imp (fun K hK=>?_));simp (disch:=first | omega | (simp only [dls];omega)) only [std,reduceIte,reduceCtorEq,iT,nA,nS,nM,iA,iS,iM,iN,fU];subst hK) | refine zcA (hs) rfl rfl rfl ?_)
   exact ⟨_,rfl,rfl⟩
 ·rw [show okM m = false from by simpa using hk',if_neg (by simp)] at hs
  refine pureC_of (rs:=[(RV.tmp 4),(RV.tmp 5)]) Try.func30 (fun a w=>Try.call30 a w) body30 cc30 (by kernel_rfl) ?_
  rw [Try.ntmps30]
  simp only [frs,nA,nS]
  repeat (first | (with_reducible first | refine Way.imp ?_ | refine blk_o rfl ?_) | ((with_reducible refine WayR.imp (fun K hK=>?_));simp (disch:=first | omega | (simp only [dls];omega)) only [std,reduceIte,reduceCtorEq,iT,nA,nS,nM,iA,iS,iM,iN,fU];subst hK) | refine zcA (hs) rfl rfl rfl ?_)
  exact ⟨_,rfl,rfl⟩
def augRed (m:MM) (b:VV):QM × List Nat:=redTo (qM (augM m b)) (cols (augM m b))
def solveOk (m:MM) (b:VV):Bool:=decide ((osl m).length <= (augRed m b).2.length) && (decide ((osl m).length = 0) || decide ((augRed m b).2.getD ((osl m).length - 1) 0 = (osl m).length - 1))
def solveQ (m:MM) (b:VV):List Rat:=(augRed m b).1.map fun r=>r.getD (osl m).length 0
def solveV (m:MM) (b:VV):AV:=if solveOk m b then .tup [aV (rowO ((solveQ m b).map rawQ)),aI 0] else .tup [aV none,aI 8]
theorem solve_C (m:MM) (b:VV) (n L:Nat) (hm:FitsM m n L) (hb:FitsV b n L) (hn:n <= 1000) (hL:1 <= L) (hL2:L <= 20000) (hk:okM m = true) (hc:cols m = (osl m).length) (hbl:(osl b).length = (osl m).length) (hlt:(osl m).length < 200)
  (hred:PureC Try.prog 66 [aM (augM m b)] (.ret (.tup [aM (rawM (augRed m b).1),aIs (rowO (intsN (augRed m b).2))]))) (hrows:∀ r ∈ (augRed m b).1,r.length = (osl m).length + 1) (hQl:(augRed m b).1.length = (osl m).length) :
  PureC Try.prog 30 [aM m,aV b] (.ret (solveV m b)):=by
 have hm1:=hm.1
 have hs:=sides_C m (by omega)
 unfold sidesV at hs
 rw [hk,if_pos rfl,hc] at hs
 have hk':=hk
 unfold okM at hk'
 simp only [Bool.and_eq_true,decide_eq_true_eq] at hk'
 refine pureC_of (rs:=[(RV.tmp 4),(RV.tmp 5)]) Try.func30 (fun a w=>Try.call30 a w) body30 cc30 (by kernel_rfl) ?_
 rw [Try.ntmps30]
 simp only [frs,nA,nS]
 repeat (first | (with_reducible first | refine Way.imp ?_ | refine blk_o rfl ?_) | ((with_reducible refine WayR.imp (fun K hK=>?_));simp (disch:=first | omega | (simp only [dls];omega)) only [std,reduceIte,reduceCtorEq,iT,nA,nS,nM,iA,iS,iM,iN,fU,hbl];subst hK) | refine zcA (hs) rfl rfl rfl ?_)
 refine AWp.fgt ?_ (Fgt.openNil (i:=9) rfl 23 1)
 simp only [List.set_cons_succ,List.set_cons_zero,List.length_nil,List.length_cons,List.nil_append,List.cons_append,nA]
 refine awp_loop (fun (zz:Nat × (List VV) × Nat × Bool)=>⟨(.junk :: aV b :: .junk :: .junk :: .junk :: .junk :: aI (osl m).length :: aI (osl m).length :: .junk :: .one (.own 0 zz.2.2.1) :: .junk :: .junk :: .junk :: .junk :: .junk :: .junk :: .junk :: .junk :: .junk :: .junk :: .junk :: .junk :: .junk :: .junk :: .junk :: .junk :: .junk :: .junk :: .junk :: .junk :: .junk :: .junk :: .junk :: .junk :: .junk :: .junk :: .junk :: .junk :: .junk :: .junk :: aM m :: aI (osl m).length :: aI zz.1 :: .junk :: .junk :: .junk :: .junk :: .junk :: .junk :: .junk :: .junk :: .junk :: .junk :: .junk :: .junk :: .junk :: .junk :: .junk :: .junk :: .junk :: .junk :: .junk :: .junk :: .junk :: .junk :: .junk :: .junk :: .junk :: .junk :: .junk :: .junk :: .junk :: .junk :: .junk :: .junk :: .junk :: .junk :: .junk :: .junk :: .junk :: .junk :: .junk :: .junk :: .junk :: .junk :: .junk :: .junk :: .junk :: .junk :: .junk :: .junk :: .junk :: .junk :: .junk :: .junk :: .junk :: .junk :: .junk :: .junk :: []),[⟨zz.2.2.1,23,1,encB fM zz.2.1,true,zz.2.2.2⟩]⟩) (fun (zz:Nat × (List VV) × Nat × Bool)=>zz.1 <= (osl m).length /\ zz.2.1 = augTo m b zz.1 /\ zz.2.2.2 = !zz.2.1.isEmpty) (fun (zz:Nat × (List VV) × Nat × Bool)=>(osl m).length - zz.1) (0,[],0,false) ?hI1 (Fgt.head (Nat.zero_le 1) (false :: true :: false :: false :: false :: false :: true :: true :: false :: true :: false :: false :: false :: false :: false :: false :: false :: false :: false :: false :: false :: false :: false :: false :: false :: false :: false :: false :: false :: false :: false :: false :: false :: false :: false :: false :: false :: false :: false :: false :: true :: true :: true :: []) ?hT1 ?hH1) ?hB1
 case hT1=>first | (simp (disch:=omega) only [hds,liveT,cleanAV,cleanCell,clean1,cleanBlk,reduceIte,iS,iA,iN,encB_nil];done) | rfl
 case hH1=>first | (simp (disch:=omega) only [hds,liveT,cleanAV,cleanCell,clean1,cleanBlk,reduceIte,iS,iA,iN,encB_nil];done) | rfl
 ·dsimp only;exact ⟨by omega,rfl,rfl⟩
 rintro ⟨i,out,u,nn⟩ ⟨hi,ho,hnn⟩
 dsimp only at hi ho hnn
 by_cases hin:i = (osl m).length
 ·have hA:augM m b = rowO out:=by unfold augM;rw [ho,hin]
  rw [hA] at hred
  unfold solveV solveOk solveQ
  generalize augRed m b = S at *
  obtain ⟨Q,P⟩:=S
  dsimp only at hred hrows hQl ⊢
  have hpl:((osl (rowO (intsN P))).length:Nat) = P.length:=by rw [osl_rowO,intsN_length]
  by_cases hP:(osl m).length <= P.length
  ·rw [decide_eq_true hP,Bool.true_and]
   have hrm:(osl (rawM Q)).length = (osl m).length:=by unfold rawM;rw [osl_some,List.length_map];exact hQl
   by_cases hN0:(osl m).length = 0
   ·have hQ0:Q = []:=List.length_eq_zero_iff.1 (by omega)
    rw [decide_eq_true hN0,Bool.true_or,if_pos rfl,hQ0]
    repeat (first | (with_reducible first | refine Way.imp ?_ | refine blk_o rfl ?_) | ((with_reducible refine WayR.imp (fun K hK=>?_));simp (disch:=first | omega | (simp only [dls];omega)) only [std,reduceIte,reduceCtorEq,iT,nA,nS,nM,iA,iS,iM,iN,fU,hN0,hpl,hrm];subst hK) | (apply call_ret (hred) rfl;(case hcl=>(simp only [evs,St.ev,constAV,evl];(repeat (first | exact closeAVs_nil | (apply closeAVs_cons;(first | (refine close_own3 rfl (by decide)) | (refine close_ownO rfl (by decide) ?_;assumption) | rfl))));done));(case hf=>rfl);(case hu=>(simp only [evs,St.ev,constAV,evl];(repeat (first | exact used_nil | (apply used_cons;(first | (apply used_own3;rfl) | rfl))));done));(case hh=>((simp only [fzl,nB,nA,Bool.false_eq_true,if_true,if_false,reduceIte]) <;> rfl))))
    refine awp_loop (fun (zz:Nat)=>⟨(.junk :: .junk :: .junk :: .junk :: .junk :: .junk :: .junk :: .junk :: .junk :: .junk :: .junk :: .junk :: .junk :: .junk :: .one (.c (.val (.slice none 0 0))) :: .junk :: .junk :: .junk :: .junk :: .junk :: .junk :: .junk :: .junk :: .junk :: .junk :: .junk :: .junk :: .junk :: .junk :: .junk :: .junk :: .junk :: .junk :: .junk :: .junk :: .junk :: .junk :: .junk :: .junk :: .junk :: .junk :: .junk :: .junk :: .junk :: .junk :: .junk :: .junk :: .junk :: .junk :: .junk :: .junk :: .junk :: .junk :: .junk :: .junk :: .junk :: .junk :: .junk :: .junk :: .junk :: .junk :: .junk :: .junk :: .junk :: .junk :: .junk :: .junk :: .junk :: .junk :: .junk :: .junk :: .junk :: .junk :: .junk :: .junk :: .junk :: .junk :: .junk :: .junk :: .junk :: .junk :: .junk :: .junk :: .junk :: .junk :: aI 0 :: aI zz :: .junk :: .junk :: .junk :: .junk :: .junk :: .junk :: .junk :: .junk :: .junk :: .junk :: .junk :: .junk :: []),[]⟩) (fun (zz:Nat)=>zz = 0) (fun (zz:Nat)=>0) (0) ?hI2 (Fgt.head (Nat.le_refl _) (false :: false :: false :: false :: false :: false :: false :: false :: false :: false :: false :: false :: false :: false :: true :: false :: false :: false :: false :: false :: false :: false :: false :: false :: false :: false :: false :: false :: false :: false :: false :: false :: false :: false :: false :: false :: false :: false :: false :: false :: false :: false :: false :: false :: false :: false :: false :: false :: false :: false :: false :: false :: false :: false :: false :: false :: false :: false :: false :: false :: false :: false :: false :: false :: false :: false :: false :: false :: false :: false :: false :: false :: false :: false :: false :: false :: false :: false :: false :: false :: false :: false :: false :: false :: false :: true :: true :: []) ?hT2 ?hH2) ?hB2
    case hT2=>first | (simp (disch:=omega) only [hds,liveT,cleanAV,cleanCell,clean1,cleanBlk,reduceIte,iS,iA,iN];done) | rfl
    case hH2=>first | (simp (disch:=omega) only [hds,liveT,cleanAV,cleanCell,clean1,cleanBlk,reduceIte,iS,iA,iN];done) | rfl
    ·rfl
    rintro j hj
    rw [hj]
    repeat (first | (with_reducible first | refine Way.imp ?_ | refine blk_o rfl ?_) | ((with_reducible refine WayR.imp (fun K hK=>?_));simp (disch:=first | omega | (simp only [dls];omega)) only [std,reduceIte,reduceCtorEq,iT,nA,nS,nM,iA,iS,iM,iN,fU];subst hK))
    exact ⟨_,rfl,rfl⟩
   have hN1:(osl m).length - 1 < P.length:=by omega
   have hpi:(((osl m).length:Int) - 1).toNat = (osl m).length - 1:=by omega
   have hent:∀ h:(osl m).length - 1 < (osl (rowO (intsN P))).length,(osl (rowO (intsN P)))[(osl m).length - 1] = ((P[(osl m).length - 1]:Nat):Int):=fun h=>by
    rw [List.getElem_of_eq (osl_rowO (intsN P)) h];unfold intsN;rw [List.getElem_map]
   rw [decide_eq_false hN0,Bool.false_or,List.getD_eq_getElem?_getD,List.getElem?_eq_getElem hN1,Option.getD_some]
   by_cases hq:P[(osl m).length - 1] = (osl m).length - 1
   case neg =>
    rw [decide_eq_false hq,if_neg (by simp)]
    have hne:((P[(osl m).length - 1]:Nat):Int) ≠ ((osl m).length:Int) - 1:=by omega
    generalize P[(osl m).length - 1] = z at *
    repeat (first | (with_reducible first | refine Way.imp ?_ | refine blk_o rfl ?_) | ((with_reducible refine WayR.imp (fun K hK=>?_));simp (disch:=first | omega | (simp only [dls];omega)) only [std,reduceIte,reduceCtorEq,iT,nA,nS,nM,iA,iS,iM,iN,fU,fI,hpi,hent,hpl];subst hK) | (apply call_ret (hred) rfl;(case hcl=>(simp only [evs,St.ev,constAV,evl];(repeat (first | exact closeAVs_nil | (apply closeAVs_cons;(first | (refine close_own3 rfl (by decide)) | (refine close_ownO rfl (by decide) ?_;assumption) | rfl))));done));(case hf=>rfl);(case hu=>(simp only [evs,St.ev,constAV,evl];(repeat (first | exact used_nil | (apply used_cons;(first | (apply used_own3;rfl) | rfl))));done));(case hh=>((simp only [fzl,nB,nA,Bool.false_eq_true,if_true,if_false,reduceIte]) <;> rfl))))
    exact ⟨_,rfl,rfl⟩
   rw [decide_eq_true hq,if_pos rfl]
   have hne:((P[(osl m).length - 1]:Nat):Int) = ((osl m).length:Int) - 1:=by omega
   generalize P[(osl m).length - 1] = z at *
   repeat (first | (with_reducible first | refine Way.imp ?_ | refine blk_o rfl ?_) | ((with_reducible refine WayR.imp (fun K hK=>?_));simp (disch:=first | omega | (simp only [dls];omega)) only [std,reduceIte,reduceCtorEq,iT,nA,nS,nM,iA,iS,iM,iN,fU,fI,hpi,hent,hpl,hrm];subst hK) | (apply call_ret (hred) rfl;(case hcl=>(simp only [evs,St.ev,constAV,evl];(repeat (first | exact closeAVs_nil | (apply closeAVs_cons;(first | (refine close_own3 rfl (by decide)) | (refine close_ownO rfl (by decide) ?_;assumption) | rfl))));done));(case hf=>rfl);(case hu=>(simp only [evs,St.ev,constAV,evl];(repeat (first | exact used_nil | (apply used_cons;(first | (apply used_own3;rfl) | rfl))));done));(case hh=>((simp only [fzl,nB,nA,Bool.false_eq_true,if_true,if_false,reduceIte]) <;> rfl))))
   refine AWp.fgt ?_ (Fgt.openNil (i:=14) rfl 41 3)
   simp only [List.set_cons_succ,List.set_cons_zero,List.length_nil,List.length_cons,List.nil_append,List.cons_append,nA]
   refine awp_loop (fun (zz:Nat × (List RR) × Nat × Bool)=>⟨(.junk :: .junk :: .junk :: .junk :: .junk :: .junk :: aI (osl m).length :: .junk :: .junk :: .junk :: .junk :: .junk :: .junk :: .junk :: .one (.own 1 zz.2.2.1) :: .junk :: .junk :: .junk :: .junk :: .junk :: .junk :: .junk :: .junk :: .junk :: .junk :: .junk :: .junk :: .junk :: .junk :: .junk :: .junk :: .junk :: .junk :: .junk :: .junk :: .junk :: .junk :: .junk :: .junk :: .junk :: .junk :: .junk :: .junk :: .junk :: .junk :: .junk :: .junk :: .junk :: .junk :: .junk :: .junk :: .junk :: .junk :: .junk :: .junk :: .junk :: .junk :: .junk :: .junk :: .junk :: .junk :: .junk :: .junk :: .junk :: .junk :: .junk :: .junk :: .junk :: .junk :: .junk :: .junk :: .junk :: .junk :: .junk :: .junk :: .junk :: .junk :: .junk :: .junk :: .junk :: .junk :: .junk :: .junk :: .junk :: aM (rawM Q) :: aI (osl m).length :: aI zz.1 :: .junk :: .junk :: .junk :: .junk :: .junk :: .junk :: .junk :: .junk :: .junk :: .junk :: .junk :: .junk :: []),[⟨u,23,1,encB fM out,false,nn⟩,⟨zz.2.2.1,41,3,encB fR zz.2.1,true,zz.2.2.2⟩]⟩) (fun (zz:Nat × (List RR) × Nat × Bool)=>zz.1 <= (osl m).length /\ zz.2.1 = (Q.take zz.1).map (fun r=>rawQ (r.getD (osl m).length 0)) /\ zz.2.2.2 = !zz.2.1.isEmpty) (fun (zz:Nat × (List RR) × Nat × Bool)=>(osl m).length - zz.1) (0,[],0,false) ?hI3 (Fgt.head (Nat.zero_le 2) (false :: false :: false :: false :: false :: false :: true :: false :: false :: false :: false :: false :: false :: false :: true :: false :: false :: false :: false :: false :: false :: false :: false :: false :: false :: false :: false :: false :: false :: false :: false :: false :: false :: false :: false :: false :: false :: false :: false :: false :: false :: false :: false :: false :: false :: false :: false :: false :: false :: false :: false :: false :: false :: false :: false :: false :: false :: false :: false :: false :: false :: false :: false :: false :: false :: false :: false :: false :: false :: false :: false :: false :: false :: false :: false :: false :: false :: false :: false :: false :: false :: false :: false :: false :: true :: true :: true :: []) ?hT3 ?hH3) ?hB3
   case hT3=>first | (simp (disch:=omega) only [hds,liveT,cleanAV,cleanCell,clean1,cleanBlk,reduceIte,iS,iA,iN,encB_nil];done) | rfl
   case hH3=>first | (simp (disch:=omega) only [hds,liveT,cleanAV,cleanCell,clean1,cleanBlk,reduceIte,iS,iA,iN,encB_nil];done) | rfl
   ·dsimp only;exact ⟨by omega,rfl,rfl⟩
   rintro ⟨j,ro,v,rn⟩ ⟨hj,hro,hrn⟩
   dsimp only at hj hro hrn
   by_cases hjn:j = (osl m).length
   ·repeat (first | (with_reducible first | refine Way.imp ?_ | refine blk_o rfl ?_) | ((with_reducible refine WayR.imp (fun K hK=>?_));simp (disch:=first | omega | (simp only [dls];omega)) only [std,reduceIte,reduceCtorEq,iT,nA,nS,nM,iA,iS,iM,iN,fU];subst hK))
    refine ⟨_,rfl,?_⟩
    have he:(Q.map fun r=>r.getD (osl m).length 0).map rawQ = ro:=by
     rw [hro,hjn,<- hQl,List.take_length,List.map_map];rfl
    rw [he]
    exact close_res2 rfl (by decide) hrn
   ·have hjl:j < Q.length:=by omega
    have hrml:j < (osl (rawM Q)).length:=by omega
    have hge:∀ h:j < (osl (rawM Q)).length,(osl (rawM Q))[j] = rawV Q[j]:=fun h=>by unfold rawM;simp only [osl_some,List.getElem_map]
    have hrw:=hrows _ (List.getElem_mem hjl)
    have hrwl:(osl (rawV Q[j])).length = (osl m).length + 1:=by rw [osl_rawV,List.length_map];exact hrw
    have hen:∀ h:(osl m).length < (osl (rawV Q[j])).length,(osl (rawV Q[j]))[(osl m).length] = rawQ (Q[j].getD (osl m).length 0):=fun h=>by
     simp only [osl_rawV,List.getElem_map]
     rw [List.getD_eq_getElem?_getD,List.getElem?_eq_getElem (by omega)]
     rfl
    have hrol:ro.length = j:=by rw [hro,List.length_map,List.length_take];omega
    repeat (first | (with_reducible first | refine Way.imp ?_ | refine blk_o rfl ?_) | ((with_reducible refine WayR.imp (fun K hK=>?_));simp (disch:=first | omega | (simp only [dls];omega)) only [std,reduceIte,reduceCtorEq,iT,nA,nS,nM,iA,iS,iM,iN,fU,fM,fR,hge,hrwl,hen];subst hK))
    refine ⟨(j + 1,ro ++ [rawQ (Q[j].getD (osl m).length 0)],v + 1,true),?hI4,?hM4,Fgt.head (Nat.zero_le 2) (false :: false :: false :: false :: false :: false :: true :: false :: false :: false :: false :: false :: false :: false :: true :: false :: false :: false :: false :: false :: false :: false :: false :: false :: false :: false :: false :: false :: false :: false :: false :: false :: false :: false :: false :: false :: false :: false :: false :: false :: false :: false :: false :: false :: false :: false :: false :: false :: false :: false :: false :: false :: false :: false :: false :: false :: false :: false :: false :: false :: false :: false :: false :: false :: false :: false :: false :: false :: false :: false :: false :: false :: false :: false :: false :: false :: false :: false :: false :: false :: false :: false :: false :: false :: true :: true :: true :: []) ?hT4 ?hH4⟩
    case hT4=>first | (simp (disch:=omega) only [hds,liveT,cleanAV,cleanCell,clean1,cleanBlk,reduceIte,iS,iA,iN,encB_snoc_row,List.isEmpty_cons,Bool.or_true,Bool.not_false];done) | rfl
    case hH4=>first | (simp (disch:=omega) only [hds,liveT,cleanAV,cleanCell,clean1,cleanBlk,reduceIte,iS,iA,iN,encB_snoc_row,List.isEmpty_cons,Bool.or_true,Bool.not_false];done) | rfl
    ·dsimp only
     refine ⟨by omega,?_,by simp⟩
     rw [hro,List.take_succ_eq_append_getElem hjl,List.map_append]
     rfl
    ·dsimp only;omega
  ·rw [decide_eq_false hP,Bool.false_and,if_neg (by simp)]
   repeat (first | (with_reducible first | refine Way.imp ?_ | refine blk_o rfl ?_) | ((with_reducible refine WayR.imp (fun K hK=>?_));simp (disch:=first | omega | (simp only [dls];omega)) only [std,reduceIte,reduceCtorEq,iT,nA,nS,nM,iA,iS,iM,iN,fU,hpl];subst hK) | (apply call_ret (hred) rfl;(case hcl=>(simp only [evs,St.ev,constAV,evl];(repeat (first | exact closeAVs_nil | (apply closeAVs_cons;(first | (refine close_own3 rfl (by decide)) | (refine close_ownO rfl (by decide) ?_;assumption) | rfl))));done));(case hf=>rfl);(case hu=>(simp only [evs,St.ev,constAV,evl];(repeat (first | exact used_nil | (apply used_cons;(first | (apply used_own3;rfl) | rfl))));done));(case hh=>((simp only [fzl,nB,nA,Bool.false_eq_true,if_true,if_false,reduceIte]) <;> rfl))))
   exact ⟨_,rfl,rfl⟩
 ·have hil:i < (osl m).length:=by omega
  have hibl:i < (osl b).length:=by omega
  have hrow:(osl (osl m)[i]).length = (osl m).length:=by have:=rectTo_at hk'.1 hil;rw [mAt_in hil,hc] at this;exact this
  have htk:(osl (osl m)[i]).take (osl m).length = osl (osl m)[i]:=List.take_of_length_le (by omega)
  have hol:out.length = i:=by rw [ho];unfold augTo;rw [List.length_map,List.length_range]
  repeat (first | (with_reducible first | refine Way.imp ?_ | refine blk_o rfl ?_) | ((with_reducible refine WayR.imp (fun K hK=>?_));simp (disch:=first | omega | (simp only [dls];omega)) only [std,reduceIte,reduceCtorEq,iT,nA,nS,nM,iA,iS,iM,iN,fU,fM,fR,hrow,htk,encBack,List.length_map,ne_eq,not_false_eq_true,encB_snoc_row];subst hK))
  refine ⟨(i + 1,out ++ [augV (osl m)[i] (osl b)[i]],u + 1,true),⟨by dsimp only;omega,?_,?_⟩,by dsimp only;omega,Fgt.trans (Fgt.cellSnoc (b:=0) (c:=1) (f:=fM) (l:=out) (g:=fR) (r:=osl (osl m)[i] ++ [(osl b)[i]]) (x:=augV (osl m)[i] (osl b)[i]) rfl rfl (by decide) rfl (by decide)) ?_⟩
  ·dsimp only
   rw [ho,augTo_succ,mAt_in hil,rAt_in hibl]
  ·dsimp only;cases out <;> rfl
  ·rw [freeze_from]
   simp only [fzl,nB,nA,Bool.false_eq_true,if_true,if_false,reduceIte,List.set_cons_zero]
   refine Fgt.head (Nat.zero_le 1) (false :: true :: false :: false :: false :: false :: true :: true :: false :: true :: false :: false :: false :: false :: false :: false :: false :: false :: false :: false :: false :: false :: false :: false :: false :: false :: false :: false :: false :: false :: false :: false :: false :: false :: false :: false :: false :: false :: false :: false :: true :: true :: true :: []) ?hT5 ?hH5
   case hT5=>first | (simp (disch:=omega) only [hds,liveT,cleanAV,cleanCell,clean1,cleanBlk,reduceIte,iS,iA,iN,List.isEmpty_cons,Bool.or_true,Bool.not_false];done) | rfl
   case hH5=>first | (simp (disch:=omega) only [hds,liveT,cleanAV,cleanCell,clean1,cleanBlk,reduceIte,iS,iA,iN,List.isEmpty_cons,Bool.or_true,Bool.not_false];done) | rfl
theorem aug_len (m:MM) (b:VV):(osl (augM m b)).length = (osl m).length:=by
 unfold augM;rw [osl_rowO];unfold augTo;rw [List.length_map,List.length_range]
theorem aug_at (m:MM) (b:VV) {i:Nat} (hi:i < (osl m).length):mAt (augM m b) i = augV (mAt m i) (rAt b i):=by
 rw [mAt_in (by rw [aug_len];exact hi)]
 unfold augM
 rw [List.getElem_of_eq (osl_rowO _) _]
 unfold augTo
 rw [List.getElem_map,List.getElem_range]
theorem aug_row (m:MM) (b:VV) (hk:rectTo m (osl m).length = true) (hc:cols m = (osl m).length) {i:Nat} (hi:i < (osl m).length):(osl (mAt (augM m b) i)).length = (osl m).length + 1:=by
 rw [aug_at m b hi]
 unfold augV
 rw [osl_some,List.length_append,rectTo_at hk hi,hc]
 rfl
theorem aug_cols (m:MM) (b:VV) (hk:rectTo m (osl m).length = true) (hc:cols m = (osl m).length) (h0:(osl m).length ≠ 0):cols (augM m b) = (osl m).length + 1:=by
 unfold cols;exact aug_row m b hk hc (by omega)
theorem aug_ok (m:MM) (b:VV) (hk:rectTo m (osl m).length = true) (hc:cols m = (osl m).length) (hlt:(osl m).length < 200):okM (augM m b) = true:=by
 by_cases h0:(osl m).length = 0
 ·have:augM m b = none:=by unfold augM augTo;rw [h0];rfl
  rw [this];decide
 ·unfold okM
  rw [aug_len,aug_cols m b hk hc h0,decide_eq_true (by omega:(osl m).length <= 200),decide_eq_true (by omega:(osl m).length + 1 <= 200)]
  simp only [Bool.and_true]
  unfold rectTo
  rw [List.all_eq_true]
  intro i hi
  rw [aug_cols m b hk hc h0,aug_row m b hk hc (List.mem_range.1 hi)]
  simp
theorem aug_fits {m:MM} {b:VV} {n L:Nat} (hm:FitsM m n L) (hb:FitsV b n L) (hbl:(osl b).length = (osl m).length):FitsM (augM m b) (n + 1) L:=by
 refine ⟨by rw [aug_len];have:=hm.1;omega,fun v hv=>?_⟩
 obtain ⟨i,hi,rfl⟩:=List.mem_iff_getElem.1 hv
 rw [aug_len] at hi
 rw [<- mAt_in,aug_at m b hi]
 have h1:=hm.2 _ (List.getElem_mem hi)
 rw [<- mAt_in hi] at h1
 refine ⟨by unfold augV;rw [osl_some,List.length_append];have:=h1.1;simp only [List.length_cons,List.length_nil];omega,fun r hr=>?_⟩
 unfold augV at hr
 rw [osl_some,List.mem_append] at hr
 rcases hr with hr | hr
 ·exact h1.2 r hr
 ·rw [List.mem_singleton.1 hr,rAt_in (by omega)];exact hb.2 _ (List.getElem_mem _)
theorem solve_full (m:MM) (b:VV) (n L:Nat) (hm:FitsM m n L) (hb:FitsV b n L) (hn:n <= 999) (hL:1 <= L) (hL2:L <= 20000) (hk:okM m = true) (hc:cols m = (osl m).length) (hbl:(osl b).length = (osl m).length) (hlt:(osl m).length < 200)
  (hB:4 ^ (osl m).length * (L + 1) <= 4000000):PureC Try.prog 30 [aM m,aV b] (.ret (solveV m b)):=by
 have hk':=hk
 unfold okM at hk'
 simp only [Bool.and_eq_true] at hk'
 have hak:=aug_ok m b hk'.1 hc hlt
 have haf:=aug_fits hm hb hbl
 have hred:=reduce_C (augM m b) (n + 1) L haf (by omega) hL hak (by rw [aug_len];exact hB)
 have hw:=(red_fits (wf_qM haf hak hL) hL (cols (augM m b)) (Nat.le_refl _)).2.1
 refine solve_C m b n L hm hb (by omega) hL hL2 hk hc hbl hlt hred ?_ ?_
 ·intro r hr
  have h1:=(hw.2 r hr).1
  by_cases h0:(osl m).length = 0
  ·have:=hw.1
   rw [aug_len,h0] at this
   have he:(augRed m b).1 = []:=List.length_eq_zero_iff.1 this
   rw [he] at hr;simp at hr
  ·rw [h1];exact aug_cols m b hk'.1 hc h0
 ·have:=hw.1;rw [aug_len] at this;exact this
theorem cols_le {m:MM} {n L:Nat} (h:FitsM m n L):cols m <= n:=(h.at 0).1
theorem cols_zero {m:MM} (h:(osl m).length = 0):cols m = 0:=by unfold cols mAt;rw [List.length_eq_zero_iff.1 h];rfl
theorem ok_of {m:MM} {n L:Nat} (h:FitsM m n L) (hn:n <= 200) (hr:rectTo m (osl m).length = true):okM m = true:=by
 unfold okM
 rw [hr,decide_eq_true (by have:=h.1;omega:(osl m).length <= 200),decide_eq_true (by have:=cols_le h;omega:cols m <= 200)]
 rfl
theorem ok_rect {m:MM} (h:okM m = true):rectTo m (osl m).length = true:=by
 unfold okM at h
 simp only [Bool.and_eq_true] at h
 exact h.1
theorem row_len {m:MM} {i:Nat} (h:rectTo m (osl m).length = true) (hi:i < (osl m).length):(osl (mAt m i)).length = cols m:=rectTo_at h hi
theorem qM_row (m:MM) (i:Nat):(qM m).getD i [] = (osl (mAt m i)).map fun r=>r.val:=by
 unfold qM mAt
 rw [List.getD_eq_getElem?_getD,List.getD_eq_getElem?_getD,List.getElem?_map]
 cases (osl m)[i]? with
 | none=>rfl
 | some v=>rfl
theorem eQ_qM (m:MM) (i k:Nat):eQ (qM m) i k = qAt (mAt m i) k:=by
 unfold eQ
 rw [qM_row]
 unfold qAt rAt
 rw [List.getD_eq_getElem?_getD,List.getD_eq_getElem?_getD,List.getElem?_map]
 cases (osl (mAt m i))[k]? with
 | none=>exact zR_val.symm
 | some v=>rfl
theorem shp_qM {m:MM} (h:rectTo m (osl m).length = true):Shp (qM m) (osl m).length (cols m):=by
 refine ⟨by unfold qM;rw [List.length_map],fun i hi=>?_⟩
 rw [qM_row,List.length_map]
 exact row_len h hi
theorem Wf.shp {Q:QM} {n m L:Nat} (h:Wf Q n m L):Shp Q n m:=⟨h.1,fun i hi=>(h.row hi).1⟩
theorem osl_rawM (Q:QM):osl (rawM Q) = Q.map rawV:=rfl
theorem len_rawM (Q:QM):(osl (rawM Q)).length = Q.length:=by rw [osl_rawM,List.length_map]
theorem mAt_rawM {Q:QM} {i:Nat} (h:i < Q.length):mAt (rawM Q) i = rawV (Q.getD i []):=by
 rw [mAt_in (by rw [len_rawM];exact h),List.getD_eq_getElem?_getD,List.getElem?_eq_getElem h]
 simp only [osl_rawM,List.getElem_map]
 rfl
theorem map_val_raw (l:List Rat):(l.map rawQ).map (fun r=>r.val) = l:=by
 rw [List.map_map]
 conv=>rhs;rw [<- List.map_id l]
 exact List.map_congr_left (fun q _=>rawQ_val q)
theorem qM_rawM (Q:QM):qM (rawM Q) = Q:=by
 unfold qM
 rw [osl_rawM,List.map_map]
 conv=>rhs;rw [<- List.map_id Q]
 exact List.map_congr_left (fun r _=>map_val_raw r)
theorem rect_rawM {Q:QM} {n m:Nat} (h:Shp Q n m):rectTo (rawM Q) (osl (rawM Q)).length = true /\ (n ≠ 0 -> cols (rawM Q) = m):=by
 have hrow:∀ i,i < n -> (osl (mAt (rawM Q) i)).length = m:=fun i hi=>by
  rw [mAt_rawM (by rw [h.1];exact hi),osl_rawV,List.length_map];exact h.2 i hi
 have hc:n ≠ 0 -> cols (rawM Q) = m:=fun h0=>hrow 0 (by omega)
 refine ⟨?_,hc⟩
 unfold rectTo
 rw [List.all_eq_true]
 intro i hi
 rw [List.mem_range,len_rawM,h.1] at hi
 rw [hrow i hi,hc (by omega)]
 simp
theorem fits_rawM {Q:QM} {n m L k:Nat} (h:Wf Q n m L) (hn:n <= k) (hm:m <= k):FitsM (rawM Q) k L:=by
 refine ⟨by rw [len_rawM,h.1];exact hn,fun v hv=>?_⟩
 rw [osl_rawM] at hv
 obtain ⟨r,hr,rfl⟩:=List.mem_map.1 hv
 have:=h.2 r hr
 exact fitsV_raw (by omega) this.2
theorem rowO_rawM (Q:QM) (h:Q.length ≠ 0):rowO (Q.map rawV) = rawM Q:=by
 cases Q with
 | nil=>exact (h rfl).elim
 | cons r Q=>rfl
theorem qAt_rawM {Q:QM} {i k:Nat} (h:i < Q.length):qAt (mAt (rawM Q) i) k = eQ Q i k:=by
 rw [<- eQ_qM,qM_rawM]
theorem shp_turn (m:MM):Shp (turnQ m) (cols m) (osl m).length:=by
 refine ⟨by unfold turnQ;rw [List.length_map,List.length_range],fun i hi=>?_⟩
 unfold turnQ
 rw [List.getD_eq_getElem?_getD,List.getElem?_map,List.getElem?_range hi]
 show (colQ m i (osl m).length).length = _
 unfold colQ
 rw [List.length_map,List.length_range]
theorem eQ_turn (m:MM) {k i:Nat} (hk:k < cols m) (hi:i < (osl m).length):eQ (turnQ m) k i = qAt (mAt m i) k:=by
 unfold eQ turnQ
 rw [List.getD_eq_getElem?_getD (l:=List.map _ _),List.getElem?_map,List.getElem?_range hk]
 show (colQ m k (osl m).length).getD i 0 = _
 unfold colQ
 rw [List.getD_eq_getElem?_getD,List.getElem?_map,List.getElem?_range hi]
 rfl
theorem wf_turn {m:MM} {n L:Nat} (h:FitsM m n L) (hL:1 <= L):Wf (turnQ m) (cols m) (osl m).length L:=by
 refine ⟨(shp_turn m).1,fun r hr=>?_⟩
 unfold turnQ at hr
 obtain ⟨k,hk,rfl⟩:=List.mem_map.1 hr
 refine ⟨by unfold colQ;rw [List.length_map,List.length_range],fun q hq=>?_⟩
 unfold colQ at hq
 obtain ⟨i,hi,rfl⟩:=List.mem_map.1 hq
 exact ((h.at i).at k).val hL
theorem len_apply (m:MM) (x:VV):(applyQ m x).length = (osl m).length:=by unfold applyQ;rw [List.length_map]
theorem get_apply (m:MM) (x:VV) {i:Nat} (h:i < (osl m).length):(applyQ m x).getD i 0 = dotV (mAt m i) x:=by
 unfold applyQ
 rw [List.getD_eq_getElem?_getD,List.getElem?_map,List.getElem?_eq_getElem h,mAt_in h]
 rfl
theorem fits_apply {m:MM} {x:VV} {n L:Nat} (hm:FitsM m n L) (hx:FitsV x n L) (hL:1 <= L):FitsV (rowO ((applyQ m x).map rawQ)) n (n * (2 * L + 1) + 1):=by
 refine fits_rw (by rw [len_apply];exact hm.1) (fun q hq=>?_)
 unfold applyQ at hq
 obtain ⟨v,hv,rfl⟩:=List.mem_map.1 hq
 exact fits_dot (hm.2 v hv) hx hL
theorem turn_dot {m:MM} {x y:VV} (hr:rectTo m (osl m).length = true) (hx:(osl x).length = cols m) (hy:(osl y).length = (osl m).length) :
  dotV (rowO ((applyQ m x).map rawQ)) y = dotV (rowO ((applyQ (rawM (turnQ m)) y).map rawQ)) x:=by
 have hl:=(shp_turn m).1
 rw [dot_sum,dot_sum]
 unfold vmin
 rw [len_rw,len_rw,len_apply,len_apply,len_rawM,hl,hx,hy,Nat.min_self,Nat.min_self]
 have h1:∀ i,i < (osl m).length -> qAt (rowO ((applyQ m x).map rawQ)) i * qAt y i = sumR (cols m) (fun k=>qAt (mAt m i) k * qAt x k * qAt y i):=fun i hi=>by
  rw [qAt_rw,get_apply m x hi,dot_sum,sumR_mul]
  unfold vmin
  rw [row_len hr hi,hx,Nat.min_self]
 have h2:∀ k,k < cols m -> qAt (rowO ((applyQ (rawM (turnQ m)) y).map rawQ)) k * qAt x k = sumR (osl m).length (fun i=>qAt (mAt m i) k * qAt x k * qAt y i):=fun k hk=>by
  rw [qAt_rw,get_apply _ y (by rw [len_rawM,hl];exact hk),dot_sum,<- sumR_mul]
  unfold vmin
  rw [mAt_rawM (by rw [hl];exact hk),osl_rawV,List.length_map,(shp_turn m).2 k hk,hy,Nat.min_self]
  refine sumR_congr (fun i hi=>?_)
  have h3:qAt (rawV ((turnQ m).getD k [])) i = qAt (mAt m i) k:=by
   rw [<- mAt_rawM (by rw [hl];exact hk),qAt_rawM (by rw [hl];exact hk),eQ_turn m hk hi]
  rw [h3,Rat.mul_assoc,Rat.mul_assoc,Rat.mul_comm (qAt y i)]
 rw [sumR_congr h1,sumR_congr h2,sumR_comm]
theorem repI0 (n:Nat):List.replicate n [Cell.c (.val (.int .i64 0))] = encB fI (List.replicate n 0):=by rw [encB_replicate];rfl
theorem ints0 (n:Nat) (hn:n <= 1000000):PureC Try.prog 20 [.one (.c (encSl 1 fI (some (List.replicate n 0))))] (.fresh 41 3 ((List.replicate n (rawQ 0)).map fR) (!decide (n = 0))):=by
 refine (ints_C (List.replicate n 0) (by rw [List.length_replicate];exact hn) (fun k hk=>by rw [(List.mem_replicate.1 hk).2];decide)).to ?_
 rw [List.map_replicate]
 have:(!(List.replicate n (0:Int)).isEmpty) = !decide (n = 0):=by cases n <;> rfl
 rw [this]
 rfl
theorem closeCV_ownO {α:Type} {g:α -> List CV} {h:List Blk} {b ver ty e n:Nat} {live nn:Bool} {l:List α} (hk:h[b]? = some ⟨ver,ty,e,encB g l,live,nn⟩) (h0:0 < e) (hn:nn = !l.isEmpty) :
  closeCV h (n + 1) (.own b ver) = some (encSl e g (rowO l)):=by
 cases l with
 | nil =>
  have hn':nn = false:=by rw [hn];rfl
  subst hn'
  simp [closeCV,hk,h0,encSl,rowO]
 | cons x l =>
  have hn':nn = true:=by rw [hn];rfl
  subst hn'
  simp only [closeCV,hk,h0,and_self,if_true,mapM_encB,Option.map_some,encSl,rowO_cons]
def rowV (l:List Rat):VV:=rowO (l.map rawQ)
structure PB where
 A:MM
 B:VV
 C:VV
def cP (p:PB):List CV:=[encSl 1 fM p.A,vr p.B,vr p.C]
abbrev aP (p:PB):AV:=.agg [.c (encSl 1 fM p.A),.c (vr p.B),.c (vr p.C)]
abbrev aRg1 (p:PB):AV:=.one (.fn 36 [.iptr [encSl 1 fM p.A,vr p.B,vr p.C]])
def rowBad (p:PB) (i:Nat):Bool:=!decide ((osl (mAt p.A i)).length = (osl p.C).length)
def rightB (p:PB):Bool:=decide ((osl p.C).length <= 5000) && (decide ((osl p.A).length <= 90) && (decide ((osl p.B).length = (osl p.A).length) && !anyI (rowBad p) (osl p.A).length))
abbrev c36:CC:=(.seq (.reg [⟨some 3,none,.mv (.const (.bool false))⟩]) (.seq (.reg [⟨some 4,none,.mv (.tmp 0)⟩,⟨some 5,none,.len false (.tmp 4)⟩,⟨some 6,none,.faddr 2 (.tmp 1)⟩,⟨some 7,none,.load 1 false (.tmp 6)⟩,⟨some 8,none,.len false (.tmp 7)⟩,⟨some 9,none,.bin .neq (.tmp 5) (.tmp 8)⟩,⟨some 3,none,.mv (.tmp 9)⟩]) .ret))
theorem cc36:ccode Try.prog [] (Try.f36.body.getD .skip) = some c36:=by kernel_rfl
theorem body36:Try.f36.body = some (Try.f36.body.getD .skip):=rfl
theorem right1_C (v:VV) (a b:CV) (c:VV):PureC Try.prog 36 [aV v,.one (.iptr [a,b,vr c])] (.ret (aB (!decide ((osl v).length = (osl c).length)))):=by
 by_cases h:(osl v).length = (osl c).length
 ·rw [decide_eq_true h]
  refine pureC_of (rs:=[(RV.tmp 3)]) Try.func36 (fun a w=>Try.call36 a w) body36 cc36 (by kernel_rfl) ?_
  rw [Try.ntmps36]
  simp only [frs,nA,nS]
  repeat (first | (with_reducible first | refine Way.imp ?_ | refine blk_o rfl ?_) | ((with_reducible refine WayR.imp (fun K hK=>?_));simp (disch:=first | omega | (simp only [dls];omega)) only [std,reduceIte,reduceCtorEq,iT,nA,nS,nM,iA,iS,iM,iN,fU,h];subst hK))
  exact ⟨_,rfl,rfl⟩
 ·rw [decide_eq_false h]
  refine pureC_of (rs:=[(RV.tmp 3)]) Try.func36 (fun a w=>Try.call36 a w) body36 cc36 (by kernel_rfl) ?_
  rw [Try.ntmps36]
  simp only [frs,nA,nS]
  repeat (first | (with_reducible first | refine Way.imp ?_ | refine blk_o rfl ?_) | ((with_reducible refine WayR.imp (fun K hK=>?_));simp (disch:=first | omega | (simp only [dls];omega)) only [std,reduceIte,reduceCtorEq,iT,nA,nS,nM,iA,iS,iM,iN,fU];subst hK))
  exact ⟨_,rfl,rfl⟩
abbrev c71_k1:CC:=(.seq (.reg [⟨some 4,none,.mv (.const (.int .i64 (-1)))⟩]) .ret)
abbrev c71_b1:CC:=(.seq (.reg [⟨some 9,none,.bin .lss (.tmp 8) (.tmp 7)⟩]) (.seq (.cond (.tmp 9) .skip (.exit 0)) (.seq (.block 1 (.seq (.reg [⟨some 10,none,.mv (.tmp 8)⟩,⟨some 5,none,.mv (.tmp 10)⟩]) (.seq (.reg [⟨some 11,none,.mv (.tmp 1)⟩,⟨some 12,none,.mv (.tmp 0)⟩,⟨some 13,none,.mv (.tmp 5)⟩,⟨some 14,none,.iaddr 1 none (.tmp 12) (.tmp 13)⟩,⟨some 15,none,.load 1 false (.tmp 14)⟩,⟨some 16,none,.callf (.tmp 11) [(.tmp 15)]⟩]) (.cond (.tmp 16) (.seq (.reg [⟨some 17,none,.mv (.tmp 5)⟩,⟨some 4,none,.mv (.tmp 17)⟩]) .ret) .skip)))) (.reg [⟨some 18,none,.bin .add (.tmp 8) (.const (.int .i64 (1)))⟩,⟨some 8,none,.mv (.tmp 18)⟩]))))
abbrev c71:CC:=(.seq (.reg [⟨some 4,none,.mv (.const (.int .i64 (0)))⟩]) (.seq (.seq (.reg [⟨some 6,none,.mv (.tmp 0)⟩,⟨some 7,none,.len false (.tmp 6)⟩,⟨some 8,none,.mv (.const (.int .i64 (0)))⟩]) (.block 0 (.loop c71_b1))) c71_k1))
theorem cc71:ccode Try.prog [] (Try.f71.body.getD .skip) = some c71:=by kernel_rfl
theorem body71:Try.f71.body = some (Try.f71.body.getD .skip):=rfl
theorem idxM_C (p:PB) (hl:(osl p.A).length <= 1000000) :
  PureC Try.prog 71 [aM p.A,aRg1 p] (.ret (aI (fstI (rowBad p) (osl p.A).length))):=by
 refine pureC_of (rs:=[(RV.tmp 4)]) Try.func71 (fun a w=>Try.call71 a w) body71 cc71 (by kernel_rfl) ?_
 rw [Try.ntmps71]
 simp only [frs,nA,nS]
 repeat (first | (with_reducible first | refine Way.imp ?_ | refine blk_o rfl ?_) | ((with_reducible refine WayR.imp (fun K hK=>?_));simp (disch:=first | omega | (simp only [dls];omega)) only [std,reduceIte,reduceCtorEq,iT,nA,nS,nM,iA,iS,iM,iN,fU];subst hK))
 refine awp_loop (fun (zz:Nat)=>⟨(aM p.A :: aRg1 p :: .junk :: .junk :: aI 0 :: .junk :: aM p.A :: aI (osl p.A).length :: aI zz :: .junk :: .junk :: .junk :: .junk :: .junk :: .junk :: .junk :: .junk :: .junk :: .junk :: []),[]⟩) (fun (zz:Nat)=>zz <= (osl p.A).length /\ anyI (rowBad p) zz = false) (fun (zz:Nat)=>(osl p.A).length - zz) (0) ?hI1 (Fgt.head (Nat.le_refl _) [true,true,false,false,true,false,true,true,true] ?hT1 ?hH1) ?hB1
 case hT1=>first | (simp (disch:=omega) only [hds,liveT,cleanAV,cleanCell,clean1,cleanBlk,reduceIte,iS,iA,iN];done) | rfl
 case hH1=>first | (simp (disch:=omega) only [hds,liveT,cleanAV,cleanCell,clean1,cleanBlk,reduceIte,iS,iA,iN];done) | rfl
 ·exact ⟨Nat.zero_le _,rfl⟩
 rintro i ⟨hi,hs⟩
 by_cases him:i = (osl p.A).length
 ·repeat (first | (with_reducible first | refine Way.imp ?_ | refine blk_o rfl ?_) | ((with_reducible refine WayR.imp (fun K hK=>?_));simp (disch:=first | omega | (simp only [dls];omega)) only [std,reduceIte,reduceCtorEq,iT,nA,nS,nM,iA,iS,iM,iN,fU];subst hK))
  rw [fstI_none (by rw [<- him];exact hs)]
  exact ⟨_,rfl,rfl⟩
 ·have hlt:i < (osl p.A).length:=by omega
  have hz:=right1_C (osl p.A)[i] (encSl 1 fM p.A) (vr p.B) p.C
  have hb:rowBad p i = !decide ((osl (osl p.A)[i]).length = (osl p.C).length):=by unfold rowBad;rw [mAt_in hlt]
  by_cases he:(osl (osl p.A)[i]).length = (osl p.C).length
  ·rw [decide_eq_true he] at hz hb
   repeat (first | (with_reducible first | refine Way.imp ?_ | refine blk_o rfl ?_) | ((with_reducible refine WayR.imp (fun K hK=>?_));simp (disch:=first | omega | (simp only [dls];omega)) only [std,reduceIte,reduceCtorEq,iT,nA,nS,nM,iA,iS,iM,iN,fU,fM,Bool.not_true];subst hK) | refine zcV (hz) rfl rfl rfl ?_)
   refine ⟨(i + 1),?hI2,?hM2,Fgt.head (Nat.le_refl _) [true,true,false,false,true,false,true,true,true] ?hT2 ?hH2⟩
   case hT2=>first | (simp (disch:=omega) only [hds,liveT,cleanAV,cleanCell,clean1,cleanBlk,reduceIte,iS,iA,iN];done) | rfl
   case hH2=>first | (simp (disch:=omega) only [hds,liveT,cleanAV,cleanCell,clean1,cleanBlk,reduceIte,iS,iA,iN];done) | rfl
   ·exact ⟨Nat.succ_le_of_lt hlt,by rw [anyI_succ,hs,hb];rfl⟩
   ·show (osl p.A).length - (i + 1) < (osl p.A).length - i;omega
  ·rw [decide_eq_false he] at hz hb
   repeat (first | (with_reducible first | refine Way.imp ?_ | refine blk_o rfl ?_) | ((with_reducible refine WayR.imp (fun K hK=>?_));simp (disch:=first | omega | (simp only [dls];omega)) only [std,reduceIte,reduceCtorEq,iT,nA,nS,nM,iA,iS,iM,iN,fU,fM,Bool.not_false];subst hK) | refine zcV (hz) rfl rfl rfl ?_)
   rw [fstI_some hlt hs (by rw [hb];rfl)]
   exact ⟨_,rfl,rfl⟩
abbrev c37:CC:=(.seq (.reg [⟨some 4,none,.mv (.const (.bool false))⟩]) (.seq (.reg [⟨some 5,none,.mv (.tmp 0)⟩,⟨some 6,none,.mv (.tmp 1)⟩,⟨some 7,none,.callf (.func 71) [(.tmp 5),(.tmp 6)]⟩,⟨some 8,none,.bin .geq (.tmp 7) (.const (.int .i64 (0)))⟩,⟨some 4,none,.mv (.tmp 8)⟩]) .ret))
theorem cc37:ccode Try.prog [] (Try.f37.body.getD .skip) = some c37:=by kernel_rfl
theorem body37:Try.f37.body = some (Try.f37.body.getD .skip):=rfl
theorem conM_C (p:PB) (hl:(osl p.A).length <= 1000000) :
  PureC Try.prog 37 [aM p.A,aRg1 p] (.ret (aB (anyI (rowBad p) (osl p.A).length))):=by
 have hx:=idxM_C p hl
 rw [<- fstI_any]
 generalize fstI (rowBad p) (osl p.A).length = k at *
 refine pureC_of (rs:=[(RV.tmp 4)]) Try.func37 (fun a w=>Try.call37 a w) body37 cc37 (by kernel_rfl) ?_
 rw [Try.ntmps37]
 simp only [frs,nA,nS]
 repeat (first | (with_reducible first | refine Way.imp ?_ | refine blk_o rfl ?_) | ((with_reducible refine WayR.imp (fun K hK=>?_));simp (disch:=first | omega | (simp only [dls];omega)) only [std,reduceIte,reduceCtorEq,iT,nA,nS,nM,iA,iS,iM,iN,fU];subst hK) | refine zcA (hx) rfl rfl rfl ?_)
 exact ⟨_,rfl,rfl⟩
abbrev c11:CC:=(.seq (.reg [⟨some 1,none,.box 25 (.tmp 0)⟩,⟨some 2,none,.mv (.const (.bool false))⟩]) (.seq (.reg [⟨some 4,none,.mkfn 36 [(.tmp 1)]⟩,⟨some 3,none,.mv (.tmp 4)⟩]) (.seq (.reg [⟨some 5,none,.faddr 2 (.tmp 1)⟩,⟨some 6,none,.load 1 false (.tmp 5)⟩,⟨some 7,none,.len false (.tmp 6)⟩,⟨some 8,none,.bin .leq (.tmp 7) (.const (.int .i64 (5000)))⟩,⟨some 9,none,.mv (.tmp 8)⟩,⟨some 10,(some (9,true)),.faddr 0 (.tmp 1)⟩,⟨some 11,(some (9,true)),.load 1 false (.tmp 10)⟩,⟨some 12,(some (9,true)),.len false (.tmp 11)⟩,⟨some 13,(some (9,true)),.bin .leq (.tmp 12) (.const (.int .i64 (90)))⟩,⟨some 14,none,.pick (.tmp 9) (.tmp 13) (.const (.bool false))⟩,⟨some 15,none,.mv (.tmp 14)⟩,⟨some 16,(some (15,true)),.faddr 1 (.tmp 1)⟩,⟨some 17,(some (15,true)),.load 1 false (.tmp 16)⟩,⟨some 18,(some (15,true)),.len false (.tmp 17)⟩,⟨some 19,(some (15,true)),.faddr 0 (.tmp 1)⟩,⟨some 20,(some (15,true)),.load 1 false (.tmp 19)⟩,⟨some 21,(some (15,true)),.len false (.tmp 20)⟩,⟨some 22,(some (15,true)),.bin .eql (.tmp 18) (.tmp 21)⟩,⟨some 23,none,.pick (.tmp 15) (.tmp 22) (.const (.bool false))⟩,⟨some 24,none,.mv (.tmp 23)⟩,⟨some 25,(some (24,true)),.faddr 0 (.tmp 1)⟩,⟨some 26,(some (24,true)),.load 1 false (.tmp 25)⟩,⟨some 27,(some (24,true)),.mv (.tmp 3)⟩,⟨some 28,(some (24,true)),.callf (.func 37) [(.tmp 26),(.tmp 27)]⟩,⟨some 29,(some (24,true)),.un .not (.tmp 28)⟩,⟨some 30,none,.pick (.tmp 24) (.tmp 29) (.const (.bool false))⟩,⟨some 2,none,.mv (.tmp 30)⟩]) .ret)))
theorem cc11:ccode Try.prog [] (Try.f11.body.getD .skip) = some c11:=by kernel_rfl
theorem body11:Try.f11.body = some (Try.f11.body.getD .skip):=rfl
theorem sright_C (p:PB):PureC Try.prog 11 [aP p] (.ret (aB (rightB p))):=by
 unfold rightB
 by_cases h1:(osl p.C).length <= 5000
 ·rw [decide_eq_true h1,Bool.true_and]
  by_cases h2:(osl p.A).length <= 90
  ·rw [decide_eq_true h2,Bool.true_and]
   by_cases h3:(osl p.B).length = (osl p.A).length
   ·rw [decide_eq_true h3,Bool.true_and]
    have hx:=conM_C p (by omega)
    generalize anyI (rowBad p) (osl p.A).length = k at *
    refine pureC_of (rs:=[(RV.tmp 2)]) Try.func11 (fun a w=>Try.call11 a w) body11 cc11 (by kernel_rfl) ?_
    rw [Try.ntmps11]
    simp only [frs,nA,nS]
    repeat (first | (with_reducible first | refine Way.imp ?_ | refine blk_o rfl ?_) | ((with_reducible refine WayR.imp (fun K hK=>?_));simp (disch:=first | omega | (simp only [dls];omega)) only [std,reduceIte,reduceCtorEq,iT,nA,nS,nM,iA,iS,iM,iN,fU,h3];subst hK) | (apply call_flat_g (by simp (disch:=first | omega | (simp only [dls];omega)) only [std,reduceIte,reduceCtorEq,iT,nA,nS,nM,iA,iS,iM,iN,fU,h3]) (hx) rfl;(case hcl=>(simp only [evs,St.ev,constAV,evl];(repeat (first | exact closeAVs_nil | (apply closeAVs_cons;(first | (refine close_own3 rfl (by decide)) | (refine close_ownO rfl (by decide) ?_;assumption) | rfl))));done));(case hf=>rfl)))
    exact ⟨_,rfl,rfl⟩
   ·rw [decide_eq_false h3,Bool.false_and]
    refine pureC_of (rs:=[(RV.tmp 2)]) Try.func11 (fun a w=>Try.call11 a w) body11 cc11 (by kernel_rfl) ?_
    rw [Try.ntmps11]
    simp only [frs,nA,nS]
    repeat (first | (with_reducible first | refine Way.imp ?_ | refine blk_o rfl ?_) | ((with_reducible refine WayR.imp (fun K hK=>?_));simp (disch:=first | omega | (simp only [dls];omega)) only [std,reduceIte,reduceCtorEq,iT,nA,nS,nM,iA,iS,iM,iN,fU];subst hK))
    exact ⟨_,rfl,rfl⟩
  ·rw [decide_eq_false h2,Bool.false_and]
   refine pureC_of (rs:=[(RV.tmp 2)]) Try.func11 (fun a w=>Try.call11 a w) body11 cc11 (by kernel_rfl) ?_
   rw [Try.ntmps11]
   simp only [frs,nA,nS]
   repeat (first | (with_reducible first | refine Way.imp ?_ | refine blk_o rfl ?_) | ((with_reducible refine WayR.imp (fun K hK=>?_));simp (disch:=first | omega | (simp only [dls];omega)) only [std,reduceIte,reduceCtorEq,iT,nA,nS,nM,iA,iS,iM,iN,fU];subst hK))
   exact ⟨_,rfl,rfl⟩
 ·rw [decide_eq_false h1,Bool.false_and]
  refine pureC_of (rs:=[(RV.tmp 2)]) Try.func11 (fun a w=>Try.call11 a w) body11 cc11 (by kernel_rfl) ?_
  rw [Try.ntmps11]
  simp only [frs,nA,nS]
  repeat (first | (with_reducible first | refine Way.imp ?_ | refine blk_o rfl ?_) | ((with_reducible refine WayR.imp (fun K hK=>?_));simp (disch:=first | omega | (simp only [dls];omega)) only [std,reduceIte,reduceCtorEq,iT,nA,nS,nM,iA,iS,iM,iN,fU];subst hK))
  exact ⟨_,rfl,rfl⟩
def belowB (r:RR):Bool:=decide (r.val < 0)
theorem sgn_below (r:RR):decide (sgn r.top < 0) = belowB r:=by
 unfold belowB
 have h:r.val < 0 ↔ r.top < 0:=by
  have h1:=mkRat_lt (n:=r.top) (m:=0) (d:=r.bot) (e:=1) r.bot_ne (by decide)
  rw [show mkRat 0 1 = (0:Rat) from rfl] at h1
  unfold RR.val
  rw [h1]
  simp
 unfold sgn
 by_cases h1:r.top < 0
 ·rw [if_pos h1,decide_eq_true (h.2 h1)];rfl
 ·rw [if_neg h1,decide_eq_false (fun e=>h1 (h.1 e))]
  split <;> rfl
def FitsP (p:PB) (n L:Nat):Prop:=FitsM p.A n L /\ FitsV p.B n L /\ FitsV p.C n L
def fewP (p:PB):Bool:=fewM p.A && (fewB p.B && fewB p.C)
abbrev c10:CC:=(.seq (.reg [⟨some 1,none,.box 25 (.tmp 0)⟩,⟨some 2,none,.mv (.const (.bool false))⟩]) (.seq (.reg [⟨some 3,none,.faddr 0 (.tmp 1)⟩,⟨some 4,none,.load 1 false (.tmp 3)⟩,⟨some 5,none,.callf (.func 34) [(.tmp 4)]⟩,⟨some 6,none,.mv (.tmp 5)⟩,⟨some 7,(some (6,true)),.faddr 1 (.tmp 1)⟩,⟨some 8,(some (6,true)),.load 1 false (.tmp 7)⟩,⟨some 9,(some (6,true)),.callf (.func 35) [(.tmp 8)]⟩,⟨some 10,none,.pick (.tmp 6) (.tmp 9) (.const (.bool false))⟩,⟨some 11,none,.mv (.tmp 10)⟩,⟨some 12,(some (11,true)),.faddr 2 (.tmp 1)⟩,⟨some 13,(some (11,true)),.load 1 false (.tmp 12)⟩,⟨some 14,(some (11,true)),.callf (.func 35) [(.tmp 13)]⟩,⟨some 15,none,.pick (.tmp 11) (.tmp 14) (.const (.bool false))⟩,⟨some 2,none,.mv (.tmp 15)⟩]) .ret))
theorem cc10:ccode Try.prog [] (Try.f10.body.getD .skip) = some c10:=by kernel_rfl
theorem body10:Try.f10.body = some (Try.f10.body.getD .skip):=rfl
theorem fewP_C (p:PB):PureC Try.prog 10 [aP p] (.ret (aB (fewP p))):=by
 have h1:=lfew_C p.A
 have h2:=few_C p.B
 have h3:=few_C p.C
 unfold fewP
 cases c1:fewM p.A with
 | false =>
  rw [c1] at h1
  refine pureC_of (rs:=[(RV.tmp 2)]) Try.func10 (fun a w=>Try.call10 a w) body10 cc10 (by kernel_rfl) ?_
  rw [Try.ntmps10]
  simp only [frs,nA,nS]
  repeat (first | (with_reducible first | refine Way.imp ?_ | refine blk_o rfl ?_) | ((with_reducible refine WayR.imp (fun K hK=>?_));simp (disch:=first | omega | (simp only [dls];omega)) only [std,reduceIte,reduceCtorEq,iT,nA,nS,nM,iA,iS,iM,iN,fU];subst hK) | refine zcA (h1) rfl rfl rfl ?_)
  exact ⟨_,rfl,rfl⟩
 | true =>
  rw [c1] at h1
  rw [Bool.true_and]
  cases c2:fewB p.B with
  | false =>
   rw [c2] at h2
   refine pureC_of (rs:=[(RV.tmp 2)]) Try.func10 (fun a w=>Try.call10 a w) body10 cc10 (by kernel_rfl) ?_
   rw [Try.ntmps10]
   simp only [frs,nA,nS]
   repeat (first | (with_reducible first | refine Way.imp ?_ | refine blk_o rfl ?_) | ((with_reducible refine WayR.imp (fun K hK=>?_));simp (disch:=first | omega | (simp only [dls];omega)) only [std,reduceIte,reduceCtorEq,iT,nA,nS,nM,iA,iS,iM,iN,fU];subst hK) | refine zcA (h1) rfl rfl rfl ?_ | (apply call_any_g (h2) rfl;(case hg=>simp (disch:=first | omega | (simp only [dls];omega)) only [std,reduceIte,reduceCtorEq,iT,nA,nS,nM,iA,iS,iM,iN,fU]);(case hcl=>(simp only [evs,St.ev,constAV,evl];(repeat (first | exact closeAVs_nil | (apply closeAVs_cons;(first | (refine close_own3 rfl (by decide)) | (refine close_ownO rfl (by decide) ?_;assumption) | rfl))));done));(case hu=>rfl)))
   exact ⟨_,rfl,rfl⟩
  | true =>
   rw [c2] at h2
   rw [Bool.true_and]
   generalize fewB p.C = k at *
   refine pureC_of (rs:=[(RV.tmp 2)]) Try.func10 (fun a w=>Try.call10 a w) body10 cc10 (by kernel_rfl) ?_
   rw [Try.ntmps10]
   simp only [frs,nA,nS]
   repeat (first | (with_reducible first | refine Way.imp ?_ | refine blk_o rfl ?_) | ((with_reducible refine WayR.imp (fun K hK=>?_));simp (disch:=first | omega | (simp only [dls];omega)) only [std,reduceIte,reduceCtorEq,iT,nA,nS,nM,iA,iS,iM,iN,fU];subst hK) | refine zcA (h1) rfl rfl rfl ?_ | (apply call_any_g (h2) rfl;(case hg=>simp (disch:=first | omega | (simp only [dls];omega)) only [std,reduceIte,reduceCtorEq,iT,nA,nS,nM,iA,iS,iM,iN,fU]);(case hcl=>(simp only [evs,St.ev,constAV,evl];(repeat (first | exact closeAVs_nil | (apply closeAVs_cons;(first | (refine close_own3 rfl (by decide)) | (refine close_ownO rfl (by decide) ?_;assumption) | rfl))));done));(case hu=>rfl)) | (apply call_any_g (h3) rfl;(case hg=>simp (disch:=first | omega | (simp only [dls];omega)) only [std,reduceIte,reduceCtorEq,iT,nA,nS,nM,iA,iS,iM,iN,fU]);(case hcl=>(simp only [evs,St.ev,constAV,evl];(repeat (first | exact closeAVs_nil | (apply closeAVs_cons;(first | (refine close_own3 rfl (by decide)) | (refine close_ownO rfl (by decide) ?_;assumption) | rfl))));done));(case hu=>rfl)))
   exact ⟨_,rfl,rfl⟩
theorem fewP_fits {p:PB} (h:fewP p = true):FitsP p 8 3 /\ (osl p.A).length <= 4:=by
 unfold fewP at h
 simp only [Bool.and_eq_true] at h
 exact ⟨⟨fewM_fits h.1,fewB_fits h.2.1,fewB_fits h.2.2⟩,fewM_len h.1⟩
def rightP (p:PB):Bool:=!anyI (rowBad p) (osl p.A).length && decide ((osl p.B).length = (osl p.A).length)
theorem rightP_eq {p:PB} (h:FitsP p 8 3) (h4:(osl p.A).length <= 4):rightB p = rightP p:=by
 have:=h.2.2.1
 unfold rightB rightP
 rw [decide_eq_true (show (osl p.C).length <= 5000 by omega),decide_eq_true (show (osl p.A).length <= 90 by omega),Bool.true_and,Bool.true_and,Bool.and_comm]
theorem rd_mat:Reads Try.prog 22 (fun l=>∃ m:MM,(osl m).length <= 9223372036854775807 /\ l = [encSl 1 fM m]):=reads_mono (reads_slice (k:=1) Try.underlying22 (by kernel_rfl) (by decide) (fun a=>rfl) (reads_mono rd_vec (by
 rintro l ⟨a,rfl⟩
 exact ⟨a,trivial,rfl⟩))) (by
 rintro l ⟨s,hs,rfl⟩
 exact ⟨s,by simpa [maxLen] using hs.2,rfl⟩)
theorem rd_problem:Reads Try.prog 25 (fun l=>∃ p:PB,l = cP p):=reads_mono (reads_struct3 (c0:=1) (c1:=1) (c2:=1) Try.underlying25 rfl (by kernel_rfl) rfl (by kernel_rfl) rfl (by kernel_rfl) (by kernel_rfl) rd_mat rd_vec rd_vec) (by
 rintro l ⟨l0,l1,l2,⟨m,_,rfl⟩,⟨b,rfl⟩,⟨c,rfl⟩,rfl⟩
 exact ⟨⟨m,b,c⟩,rfl⟩)
end Go.Proofs.Ytncgbjhojbnecaa
