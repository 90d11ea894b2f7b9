/- Walks of lin: Solve. -/
import Derived.Test.YtncgbjhojbnecaaGreatU10
import Derived.Test.YtncgbjhojbnecaaGreatU11
import Derived.Test.YtncgbjhojbnecaaGreatU12
import Derived.Test.YtncgbjhojbnecaaGreatU5
import Derived.Test.YtncgbjhojbnecaaGreatU6
import Derived.Test.YtncgbjhojbnecaaGreatU7
set_option linter.unusedSimpArgs false
set_option linter.unusedVariables false
set_option linter.unnecessarySimpa false
set_option maxRecDepth 100000
set_option maxHeartbeats 4000000
open Option renaming some -> PA, none -> QA, getD_some -> DA
open Bool renaming false -> TA, true -> SA, and_eq_true -> JA, or_true -> KA, not_false -> LA, false_eq_true -> IA
open Go.Am.Way renaming imp -> W8
open Go.Am.WayR renaming imp -> X8
open List renaming set_cons_succ -> lA, set_cons_zero -> mA, length_nil -> pA, length_cons -> oA, nil_append -> qA, cons_append -> rA, length_map -> eA, getD_eq_getElem?_getD -> bA, getElem?_eq_getElem -> aA, map_map -> uA, getElem_mem -> gA, isEmpty_cons -> kA, length_append -> sA, mem_range -> zA, map_congr_left -> wA, replicate -> jA, length_replicate -> tA, mem_map -> yA
open Nat renaming zero_le -> fN, le_refl -> EA
namespace Go.Proofs.YtncgbjhojbnecaaGreat
open Go Go.Am Go.Proofs Go.RowKit Go.Off
open Nat renaming reduceAdd -> nA,reduceSub -> nS,reduceMul -> nM,reduceBEq -> nB
open Int renaming reduceToNat -> iT,reduceAdd -> iA,reduceSub -> iS,reduceMul -> iM,reduceNeg -> iN
def XR (v:VV) (r:RR):VV:=PA (UA v ++ [r])
def rL (m:MM) (b:VV) (k:Nat):List VV:=(List.range k).map fun i=>XR (RJ m i) (dF b i)
def IJ (m:MM) (b:VV):MM:=aC (rL m b (UA m).length)
theorem augTo_succ (m:MM) (b:VV) (k:Nat):rL m b (k + 1) = rL m b k ++ [XR (RJ m k) (dF b k)]:=by unfold rL;rw [List.range_succ,List.map_append];rfl
theorem encBack {α:Type} (f:α -> List CV) (l:List α):(l.map f).map (fun x=>x.map Cell.c) = wB f l:=(jH l).symm
abbrev c134_k1:CC:=(.seq (.reg [(mV 98 14),(mV 4 98),(mI 5 0)]) .ret)
abbrev c134_b1:CC:=(.seq (.reg [(bB 87 .lss 86 85)]) (.seq (.cond (tP 87) .skip (.exit 2)) (.seq (.block 3 (.seq (.reg [(xA 88 1 84 86),(lF 89 1 88),(mV 16 89)]) (.reg [(mV 90 14),(mV 91 16),(mV 92 6),(xA 93 3 91 92),(lT 94 3 93),(oD 95 (.mkrow 48 3 [(tP 94)])),(oD 96 (.append 48 3 56 (tP 90) (tP 95))),(mV 14 96)]))) (.reg [(bC 97 .add 86 1),(mV 86 97)]))))
abbrev c134_k2:CC:=(.seq (.reg [(mV 62 9),(oD 63 (.callf (.func 144) [(tP 62)])),(mV 61 63),(eX 64 61 0),(eX 65 61 1),(mV 12 64),(mV 13 65)]) (.seq (.seq (.reg [(mV 66 13),(nL 67 66),(mV 68 6),(bB 69 .lss 67 68),(mV 70 69),(gM 71 70 TA 6),(oG 72 70 TA (.bin .gtr (tP 71) (.const (.int .i64 (0))))),(gM 73 70 TA 72),(gM 74 73 SA 13),(gM 75 73 SA 6),(oG 76 73 SA (.bin .sub (tP 75) (.const (.int .i64 (1))))),(oG 77 73 SA (.iaddr 1 QA (tP 74) (tP 76))),(oG 78 73 SA (.load 1 TA (tP 77))),(gM 79 73 SA 6),(oG 80 73 SA (.bin .sub (tP 79) (.const (.int .i64 (1))))),(oG 81 73 SA (.bin .neq (tP 78) (tP 80))),(oG 82 70 TA (.pick (tP 73) (tP 81) (.const (.bool TA)))),(pT 83 70 82)]) (.cond (tP 83) (.seq (.reg [(oD 4 (.mv nC)),(mI 5 8)]) .ret) .skip)) (.seq (.reg [(oD 14 (.mv nC))]) (.seq (.seq (.reg [(mV 84 12),(nL 85 84),(mI 86 0)]) (.block 2 (.loop c134_b1))) c134_k1))))
abbrev c134_b2:CC:=(.seq (.reg [(bB 43 .lss 42 41)]) (.seq (.cond (tP 43) .skip (.exit 0)) (.seq (.block 1 (.seq (.reg [(mV 44 42),(xA 45 1 40 42),(lF 46 1 45),(mV 10 44),(mV 11 46)]) (.regn TA [(mV 47 9),(mV 48 11),(mV 49 7),(mV 50 7),(oD 51 (.cutc 3 (tP 48) QA (PA (tP 49)) (PA (tP 50)))),(mV 52 1),(mV 53 10),(xA 54 3 52 53),(lT 55 3 54),(oD 56 (.mkrowc 3 [(tP 55)])),(oD 57 (.append 48 3 56 (tP 51) (tP 56))),(oD 58 (.mkrow 23 1 [(tP 57)])),(oD 59 (.append 23 1 24 (tP 47) (tP 58))),(mV 9 59)]))) (.reg [(bC 60 .add 42 1),(mV 42 60)]))))
abbrev c134:CC:=(.seq (.reg [(oD 4 (.mv nC)),(mI 5 0)]) (.seq (.reg [(mV 18 0),(oD 19 (.callf (.func 143) [(tP 18)])),(mV 17 19),(eX 20 17 0),(eX 21 17 1),(eX 22 17 2),(mV 6 20),(mV 7 21),(mV 8 22)]) (.seq (.seq (.reg [(mV 23 8),(uN 24 23),(mV 25 24),(gM 26 25 TA 6),(gM 27 25 TA 7),(oG 28 25 TA (.bin .neq (tP 26) (tP 27))),(pT 29 25 28),(mV 30 29),(gM 31 30 TA 1),(oG 32 30 TA (.len TA (tP 31))),(gM 33 30 TA 6),(oG 34 30 TA (.bin .neq (tP 32) (tP 33))),(pT 35 30 34),(mV 36 35),(gM 37 36 TA 6),(oG 38 36 TA (.bin .geq (tP 37) (.const (.int .i64 (200))))),(pT 39 36 38)]) (.cond (tP 39) (.seq (.reg [(oD 4 (.mv nC)),(mI 5 7)]) .ret) .skip)) (.seq (.reg [(oD 9 (.mv nC))]) (.seq (.seq (.reg [(mV 40 0),(nL 41 40),(mI 42 0)]) (.block 0 (.loop c134_b2))) c134_k2)))))
theorem cc134:ZA Tryz.prog [] (Tryz.f134.body.getD .skip) = PA c134:=by kernel_rfl
theorem body134:Tryz.f134.body = PA (Tryz.f134.body.getD .skip):=rfl
def VH (m:MM) (b:VV):QM × List Nat:=rC (qM (IJ m b)) (cols (IJ m b))
def NO (m:MM) (b:VV):Bool:=decide ((UA m).length <= (VH m b).2.length) && (decide ((UA m).length = 0) || decide ((VH m b).2.getD ((UA m).length - 1) 0 = (UA m).length - 1))
def solveQ (m:MM) (b:VV):List Rat:=(VH m b).1.map fun r=>r.getD (UA m).length 0
def sP (m:MM) (b:VV):AV:=if NO m b then .tup [aV (aC ((solveQ m b).map eB)),aI 0] else .tup [aV QA,aI 8]
theorem solve_C (m:MM) (b:VV) (n L:Nat) (hm:LG m n L) (hb:vC b n L) (hn:n <= 1000) (hL:1 <= L) (hL2:L <= 20000) (hk:MR m = SA) (hc:cols m = (UA m).length) (hbl:(UA b).length = (UA m).length) (hlt:(UA m).length < 200)
  (hred:YA Tryz.prog 144 [aM (IJ m b)] (.ret (.tup [aM (KT (VH m b).1),QL (aC (MB (VH m b).2))]))) (hrows:∀ r ∈ (VH m b).1,r.length = (UA m).length + 1) (hQl:(VH m b).1.length = (UA m).length) :
  YA Tryz.prog 134 [aM m,aV b] (.ret (sP m b)):=by
 have hm1:=hm.1
 have hs:=AT m (by omega)
 unfold UF at hs
 rw [hk,if_pos rfl,hc] at hs
 have hk':=hk
 unfold MR at hk'
 simp only [JA,decide_eq_true_eq] at hk'
 refine WA (rs:=[(RV.tmp 4),(RV.tmp 5)]) Tryz.func134 (fun a w=>Tryz.call134 a w) body134 cc134 (by kernel_rfl) ?_
 rw [Tryz.ntmps134]
 simp only [pC,nA,nS]
 repeat (first | (with_reducible first | refine W8 ?_ | refine VA rfl ?_) | ((with_reducible refine X8 fun K hK=>?_);simp (disch:=first | omega | simp only [sB];omega) only [qB,reduceIte,reduceCtorEq,iT,nA,nS,nM,iA,iS,iM,iN,fU,hbl];subst hK) | refine KB (hs) rfl rfl rfl ?_)
 refine uD.fgt ?_ (TB.openNil (i:=9) rfl 23 1)
 simp only [lA,mA,pA,oA,qA,rA,nA]
 refine xB (fun (zz:Nat × (List VV) × Nat × Bool)=>⟨(.junk :: aV b :: J4 (aI (UA m).length :: aI (UA m).length :: .junk :: .one (.own 0 zz.2.2.1) :: L8 (J8 (J4 (.junk :: .junk :: aM m :: aI (UA m).length :: aI zz.1 :: K8 (L8 (J8 ([])))))))),[⟨zz.2.2.1,23,1,wB fM zz.2.1,SA,zz.2.2.2⟩]⟩) (fun (zz:Nat × (List VV) × Nat × Bool)=>zz.1 <= (UA m).length /\ zz.2.1 = rL m b zz.1 /\ zz.2.2.2 = !zz.2.1.isEmpty) (fun (zz:Nat × (List VV) × Nat × Bool)=>(UA m).length - zz.1) (0,[],0,TA) ?hI1 (TB.headN (fN 1) (TA :: SA :: F4 (SA :: SA :: TA :: SA :: F16 (F8 (F4 (TA :: TA :: SA :: SA :: SA :: [])))))) ?hB1
 ·dsimp only;exact ⟨by omega,rfl,rfl⟩
 rintro ⟨i,out,u,nn⟩ ⟨hi,ho,hnn⟩
 dsimp only at hi ho hnn
 by_cases hin:i = (UA m).length
 ·have hA:IJ m b = aC out:=by unfold IJ;rw [ho,hin]
  rw [hA] at hred
  unfold sP NO solveQ
  generalize VH m b = S at *
  obtain ⟨Q,P⟩:=S
  dsimp only at hred hrows hQl ⊢
  have hpl:((UA (aC (MB P))).length:Nat) = P.length:=by rw [WB,eC]
  by_cases hP:(UA m).length <= P.length
  ·rw [decide_eq_true hP,Bool.true_and]
   have hrm:(UA (KT Q)).length = (UA m).length:=by unfold KT;rw [osl_some,eA];exact hQl
   by_cases hN0:(UA m).length = 0
   ·have hQ0:Q = []:=List.length_eq_zero_iff.1 (by omega)
    rw [decide_eq_true hN0,Bool.true_or,if_pos rfl,hQ0]
    repeat (first | (with_reducible first | refine W8 ?_ | refine VA rfl ?_) | ((with_reducible refine X8 fun K hK=>?_);simp (disch:=first | omega | simp only [sB];omega) only [qB,reduceIte,reduceCtorEq,iT,nA,nS,nM,iA,iS,iM,iN,fU,hN0,hpl,hrm];subst hK) | refine zqR (hred) ?_)
    refine xB (fun (zz:Nat)=>⟨(J8 (J4 (.junk :: .junk :: .one (.c (.val (.slice QA 0 0))) :: K8 (K8 (J4 (.junk :: .junk :: aI 0 :: aI zz :: J8 (J4 ([])))))))),[]⟩) (fun (zz:Nat)=>zz = 0) (fun (zz:Nat)=>0) (0) ?hI2 (TB.headA (EA _) (F8 (F4 (TA :: TA :: SA :: M8 (M8 (F4 (TA :: TA :: SA :: SA :: []))))))) ?hB2
    ·rfl
    rintro j hj
    rw [hj]
    repeat (first | (with_reducible first | refine W8 ?_ | refine VA rfl ?_) | ((with_reducible refine X8 fun K hK=>?_);simp (disch:=first | omega | simp only [sB];omega) only [qB,reduceIte,reduceCtorEq,iT,nA,nS,nM,iA,iS,iM,iN,fU];subst hK))
    exact ⟨_,rfl,rfl⟩
   have hN1:(UA m).length - 1 < P.length:=by omega
   have hpi:(((UA m).length:Int) - 1).toNat = (UA m).length - 1:=by omega
   have hent:∀ h:(UA m).length - 1 < (UA (aC (MB P))).length,(UA (aC (MB P)))[(UA m).length - 1] = ((P[(UA m).length - 1]:Nat):Int):=fun h=>by
    rw [List.getElem_of_eq (WB (MB P)) h];unfold MB;rw [List.getElem_map]
   rw [decide_eq_false hN0,Bool.false_or,bA,aA hN1,DA]
   by_cases hq:P[(UA m).length - 1] = (UA m).length - 1
   case neg =>
    rw [decide_eq_false hq,if_neg (by simp)]
    have hne:((P[(UA m).length - 1]:Nat):Int) ≠ ((UA m).length:Int) - 1:=by omega
    generalize P[(UA m).length - 1] = z at *
    repeat (first | (with_reducible first | refine W8 ?_ | refine VA rfl ?_) | ((with_reducible refine X8 fun K hK=>?_);simp (disch:=first | omega | simp only [sB];omega) only [qB,reduceIte,reduceCtorEq,iT,nA,nS,nM,iA,iS,iM,iN,fU,fI,hpi,hent,hpl];subst hK) | refine zqR (hred) ?_)
    exact ⟨_,rfl,rfl⟩
   rw [decide_eq_true hq,if_pos rfl]
   have hne:((P[(UA m).length - 1]:Nat):Int) = ((UA m).length:Int) - 1:=by omega
   generalize P[(UA m).length - 1] = z at *
   repeat (first | (with_reducible first | refine W8 ?_ | refine VA rfl ?_) | ((with_reducible refine X8 fun K hK=>?_);simp (disch:=first | omega | simp only [sB];omega) only [qB,reduceIte,reduceCtorEq,iT,nA,nS,nM,iA,iS,iM,iN,fU,fI,hpi,hent,hpl,hrm];subst hK) | refine zqR (hred) ?_)
   refine uD.fgt ?_ (TB.openNil (i:=14) rfl 48 3)
   simp only [lA,mA,pA,oA,qA,rA,nA]
   refine xB (fun (zz:Nat × (List RR) × Nat × Bool)=>⟨(J4 (.junk :: .junk :: aI (UA m).length :: J4 (.junk :: .junk :: .junk :: .one (.own 1 zz.2.2.1) :: K8 (K8 (J4 (.junk :: aM (KT Q) :: aI (UA m).length :: aI zz.1 :: J8 (J4 ([])))))))),[⟨u,23,1,wB fM out,TA,nn⟩,⟨zz.2.2.1,48,3,wB fR zz.2.1,SA,zz.2.2.2⟩]⟩) (fun (zz:Nat × (List RR) × Nat × Bool)=>zz.1 <= (UA m).length /\ zz.2.1 = (Q.take zz.1).map (fun r=>eB (r.getD (UA m).length 0)) /\ zz.2.2.2 = !zz.2.1.isEmpty) (fun (zz:Nat × (List RR) × Nat × Bool)=>(UA m).length - zz.1) (0,[],0,TA) ?hI3 (TB.headN (fN 2) (F4 (TA :: TA :: SA :: F4 (TA :: TA :: TA :: SA :: M8 (M8 (F4 (TA :: SA :: SA :: SA :: []))))))) ?hB3
   ·dsimp only;exact ⟨by omega,rfl,rfl⟩
   rintro ⟨j,ro,v,rn⟩ ⟨hj,hro,hrn⟩
   dsimp only at hj hro hrn
   by_cases hjn:j = (UA m).length
   ·repeat (first | (with_reducible first | refine W8 ?_ | refine VA rfl ?_) | ((with_reducible refine X8 fun K hK=>?_);simp (disch:=first | omega | simp only [sB];omega) only [qB,reduceIte,reduceCtorEq,iT,nA,nS,nM,iA,iS,iM,iN,fU];subst hK))
    refine ⟨_,rfl,?_⟩
    have he:(Q.map fun r=>r.getD (UA m).length 0).map eB = ro:=by
     rw [hro,hjn,<- hQl,List.take_length,uA];rfl
    rw [he]
    exact close_res2 rfl (by decide) hrn
   ·have hjl:j < Q.length:=by omega
    have hrml:j < (UA (KT Q)).length:=by omega
    have hge:∀ h:j < (UA (KT Q)).length,(UA (KT Q))[j] = ED Q[j]:=fun h=>by unfold KT;simp only [osl_some,List.getElem_map]
    have hrw:=hrows _ (gA hjl)
    have hrwl:(UA (ED Q[j])).length = (UA m).length + 1:=by rw [YD,eA];exact hrw
    have hen:∀ h:(UA m).length < (UA (ED Q[j])).length,(UA (ED Q[j]))[(UA m).length] = eB (Q[j].getD (UA m).length 0):=fun h=>by
     simp only [YD,List.getElem_map]
     rw [bA,aA (by omega)]
     rfl
    have hrol:ro.length = j:=by rw [hro,eA,List.length_take];omega
    repeat (first | (with_reducible first | refine W8 ?_ | refine VA rfl ?_) | ((with_reducible refine X8 fun K hK=>?_);simp (disch:=first | omega | simp only [sB];omega) only [qB,reduceIte,reduceCtorEq,iT,nA,nS,nM,iA,iS,iM,iN,fU,fM,fR,hge,hrwl,hen];subst hK))
    refine ⟨(j + 1,ro ++ [eB (Q[j].getD (UA m).length 0)],v + 1,SA),?hI4,?hM4,TB.head (fN 2) (F4 (TA :: TA :: SA :: F4 (TA :: TA :: TA :: SA :: M8 (M8 (F4 (TA :: SA :: SA :: SA :: [])))))) ?hT4 ?hH4⟩
    case hT4 | hH4=>first | (simp (disch:=omega) only [pD,IB,lB,XA,clean1,uB,reduceIte,iS,iA,iN,YB,kA,KA,LA];done) | rfl
    ·dsimp only
     refine ⟨by omega,?_,by simp⟩
     rw [hro,List.take_succ_eq_append_getElem hjl,List.map_append]
     rfl
    ·dsimp only;omega
  ·rw [decide_eq_false hP,Bool.false_and,if_neg (by simp)]
   repeat (first | (with_reducible first | refine W8 ?_ | refine VA rfl ?_) | ((with_reducible refine X8 fun K hK=>?_);simp (disch:=first | omega | simp only [sB];omega) only [qB,reduceIte,reduceCtorEq,iT,nA,nS,nM,iA,iS,iM,iN,fU,hpl];subst hK) | refine zqR (hred) ?_)
   exact ⟨_,rfl,rfl⟩
 ·have hil:i < (UA m).length:=by omega
  have hibl:i < (UA b).length:=by omega
  have hrow:(UA (UA m)[i]).length = (UA m).length:=by have:=MI hk'.1 hil;rw [mF hil,hc] at this;exact this
  have htk:(UA (UA m)[i]).take (UA m).length = UA (UA m)[i]:=List.take_of_length_le (by omega)
  have hol:out.length = i:=by rw [ho];unfold rL;rw [eA,List.length_range]
  repeat (first | (with_reducible first | refine W8 ?_ | refine VA rfl ?_) | ((with_reducible refine X8 fun K hK=>?_);simp (disch:=first | omega | simp only [sB];omega) only [qB,reduceIte,reduceCtorEq,iT,nA,nS,nM,iA,iS,iM,iN,fU,fM,fR,hrow,htk,encBack,eA,ne_eq,not_false_eq_true,YB];subst hK))
  refine ⟨(i + 1,out ++ [XR (UA m)[i] (UA b)[i]],u + 1,SA),⟨by dsimp only;omega,?_,?_⟩,by dsimp only;omega,TB.trans (TB.cellSnoc (b:=0) (c:=1) (f:=fM) (l:=out) (g:=fR) (r:=UA (UA m)[i] ++ [(UA b)[i]]) (x:=XR (UA m)[i] (UA b)[i]) rfl rfl (by decide) rfl (by decide)) ?_⟩
  ·dsimp only
   rw [ho,augTo_succ,mF hil,fE hibl]
  ·dsimp only;cases out <;> rfl
  ·rw [oC]
   simp only [YH,nB,nA,IA,if_true,if_false,reduceIte,mA]
   refine TB.headE (fN 1) (TA :: SA :: F4 (SA :: SA :: TA :: SA :: F16 (F8 (F4 (TA :: TA :: SA :: SA :: SA :: [])))))
theorem HJ (m:MM) (b:VV):(UA (IJ m b)).length = (UA m).length:=by
 unfold IJ;rw [WB];unfold rL;rw [eA,List.length_range]
theorem aug_at (m:MM) (b:VV) {i:Nat} (hi:i < (UA m).length):RJ (IJ m b) i = XR (RJ m i) (dF b i):=by
 rw [mF (by rw [HJ];exact hi)]
 unfold IJ
 rw [List.getElem_of_eq (WB _) _]
 unfold rL
 rw [List.getElem_map,List.getElem_range]
theorem aug_row (m:MM) (b:VV) (hk:kF m (UA m).length = SA) (hc:cols m = (UA m).length) {i:Nat} (hi:i < (UA m).length):(UA (RJ (IJ m b) i)).length = (UA m).length + 1:=by
 rw [aug_at m b hi]
 unfold XR
 rw [osl_some,sA,MI hk hi,hc]
 rfl
theorem SM (m:MM) (b:VV) (hk:kF m (UA m).length = SA) (hc:cols m = (UA m).length) (h0:(UA m).length ≠ 0):cols (IJ m b) = (UA m).length + 1:=by
 unfold cols;exact aug_row m b hk hc (by omega)
theorem aug_ok (m:MM) (b:VV) (hk:kF m (UA m).length = SA) (hc:cols m = (UA m).length) (hlt:(UA m).length < 200):MR (IJ m b) = SA:=by
 by_cases h0:(UA m).length = 0
 ·have:IJ m b = QA:=by unfold IJ rL;rw [h0];rfl
  rw [this];decide
 ·unfold MR
  rw [HJ,SM m b hk hc h0,decide_eq_true (by omega:(UA m).length <= 200),decide_eq_true (by omega:(UA m).length + 1 <= 200)]
  simp only [Bool.and_true]
  unfold kF
  rw [List.all_eq_true]
  intro i hi
  rw [SM m b hk hc h0,aug_row m b hk hc (zA.1 hi)]
  simp
theorem aug_fits {m:MM} {b:VV} {n L:Nat} (hm:LG m n L) (hb:vC b n L) (hbl:(UA b).length = (UA m).length):LG (IJ m b) (n + 1) L:=by
 refine ⟨by rw [HJ];have:=hm.1;omega,fun v hv=>?_⟩
 obtain ⟨i,hi,rfl⟩:=List.mem_iff_getElem.1 hv
 rw [HJ] at hi
 rw [<- mF,aug_at m b hi]
 have h1:=hm.2 _ (gA hi)
 rw [<- mF hi] at h1
 refine ⟨by unfold XR;rw [osl_some,sA];have:=h1.1;simp only [oA,pA];omega,fun r hr=>?_⟩
 unfold XR at hr
 rw [osl_some,List.mem_append] at hr
 rcases hr with hr | hr
 ·exact h1.2 r hr
 ·rw [List.mem_singleton.1 hr,fE (by omega)];exact hb.2 _ (gA _)
theorem solve_full (m:MM) (b:VV) (n L:Nat) (hm:LG m n L) (hb:vC b n L) (hn:n <= 999) (hL:1 <= L) (hL2:L <= 20000) (hk:MR m = SA) (hc:cols m = (UA m).length) (hbl:(UA b).length = (UA m).length) (hlt:(UA m).length < 200)
  (hB:4 ^ (UA m).length * (L + 1) <= 4000000):YA Tryz.prog 134 [aM m,aV b] (.ret (sP m b)):=by
 have hk':=hk
 unfold MR at hk'
 simp only [JA] at hk'
 have hak:=aug_ok m b hk'.1 hc hlt
 have haf:=aug_fits hm hb hbl
 have hred:=reduce_C (IJ m b) (n + 1) L haf (by omega) hL hak (by rw [HJ];exact hB)
 have hw:=(CP (wf_qM haf hak hL) hL (cols (IJ m b)) (EA _)).2.1
 refine solve_C m b n L hm hb (by omega) hL hL2 hk hc hbl hlt hred ?_ ?_
 ·intro r hr
  have h1:=(hw.2 r hr).1
  by_cases h0:(UA m).length = 0
  ·have:=hw.1
   rw [HJ,h0] at this
   have he:(VH m b).1 = []:=List.length_eq_zero_iff.1 this
   rw [he] at hr;simp at hr
  ·rw [h1];exact SM m b hk'.1 hc h0
 ·have:=hw.1;rw [HJ] at this;exact this
theorem cols_le {m:MM} {n L:Nat} (h:LG m n L):cols m <= n:=(h.at 0).1
theorem cols_zero {m:MM} (h:(UA m).length = 0):cols m = 0:=by unfold cols RJ;rw [List.length_eq_zero_iff.1 h];rfl
theorem ok_of {m:MM} {n L:Nat} (h:LG m n L) (hn:n <= 200) (hr:kF m (UA m).length = SA):MR m = SA:=by
 unfold MR
 rw [hr,decide_eq_true (by have:=h.1;omega:(UA m).length <= 200),decide_eq_true (by have:=cols_le h;omega:cols m <= 200)]
 rfl
theorem qM_row (m:MM) (i:Nat):(qM m).getD i [] = (UA (RJ m i)).map fun r=>r.val:=by
 unfold qM RJ
 rw [bA,bA,List.getElem?_map]
 cases (UA m)[i]? with
 | none=>rfl
 | some v=>rfl
theorem eQ_qM (m:MM) (i k:Nat):eQ (qM m) i k = jE (RJ m i) k:=by
 unfold eQ
 rw [qM_row]
 unfold jE dF
 rw [bA,bA,List.getElem?_map]
 cases (UA (RJ m i))[k]? with
 | none=>exact cP.symm
 | some v=>rfl
theorem Wf.shp {Q:QM} {n m L:Nat} (h:Wf Q n m L):BI Q n m:=⟨h.1,fun i hi=>(h.row hi).1⟩
theorem map_val_raw (l:List Rat):(l.map eB).map (fun r=>r.val) = l:=by
 rw [uA]
 conv=>rhs;rw [<- List.map_id l]
 exact wA (fun q _=>rawQ_val q)
def TD (S:SD):MM:=aC (S.cols.map aQ)
def tB (S:SD) (v:Nat) (mn:CV) (bc:Cell) (st bu:Int) (wk:CV):Blk :=
 ⟨v,113,9,[[.c (.val (.int .i64 (S.n:Int))),.c (.val (.int .i64 (S.m:Int))),.c (jB 1 fM (TD S)),.c (vr (aQ S.b)),.c mn,bc,.c (.val (.int .i64 st)),.c (.val (.int .i64 bu)),.c wk]],SA,SA⟩
abbrev aT (v:Nat):AV:=.one (.ptr 3 v 0 0)
abbrev aTc (S:SD) (mn bc:CV) (st bu:Int) (wk:CV):AV:=.one (.iptr [.val (.int .i64 (S.n:Int)),.val (.int .i64 (S.m:Int)),jB 1 fM (TD S),vr (aQ S.b),mn,bc,.val (.int .i64 st),.val (.int .i64 bu),wk])
theorem RE (l:List Rat):UA (aQ l) = l.map eB:=WB _
theorem nD (l:List Rat):(UA (aQ l)).length = l.length:=by rw [RE,eA]
theorem unit_ints {m i:Nat} (h:i < m):aC ((((jA m (0:Int)).set i 1).map fun n:Int=>eB (n:Rat))) = aQ (wH m i):=by
 unfold aQ
 congr 1
 refine List.ext_getElem (by rw [eA,eA,List.length_set,tA,EI]) (fun j h1 h2=>?_)
 rw [List.getElem_map,List.getElem_map,List.getElem_set]
 have hj:j < m:=by rw [eA,EI] at h2;exact h2
 have e:(wH m i)[j]'(by rw [EI];exact hj) = if j = i then 1 else 0:=by
  have:=jP m i hj
  rw [bA,aA (by rw [EI];exact hj)] at this
  exact this
 rw [e]
 by_cases c:i = j
 ·rw [if_pos c,if_pos c.symm];rfl
 ·rw [if_neg c,if_neg (fun h=>c h.symm),List.getElem_replicate];rfl
abbrev c147:CC:=(.seq (.reg [(oD 4 (.mv nC))]) (.seq (.reg [(mV 6 0),(oD 7 (.make 3 1 8 [(.int .i64 (0))] (tP 6) (tP 6))),(mV 5 7)]) (.seq (.reg [(mV 8 5),(mV 9 1),(xA 10 1 8 9),⟨QA,QA,.store 1 (tP 10) (.const (.int .i64 (1)))⟩]) (.seq (.reg [(mV 11 5),(oD 12 (.callf (.func 34) [(tP 11)])),(mV 4 12)]) .ret))))
theorem cc147:ZA Tryz.prog [] (Tryz.f147.body.getD .skip) = PA c147:=by kernel_rfl
theorem body147:Tryz.f147.body = PA (Tryz.f147.body.getD .skip):=rfl
theorem unit_C (m i:Nat) (h:i < m) (hm:m <= 1000000):YA Tryz.prog 147 [aI m,aI i] (.ret (aV (aQ (wH m i)))):=by
 have hints:=qN ((jA m (0:Int)).set i 1) (by rw [List.length_set,tA];exact hm) (fun n hn=>by
  rcases List.mem_or_eq_of_mem_set hn with h1 | h1
  ·rw [(List.mem_replicate.1 h1).2];decide
  ·rw [h1];decide)
 rw [unit_ints h] at hints
 have hs1:∀ l:List Int,(wB fI l).set i [Cell.c (.val (.int .i64 1))] = wB fI (l.set i 1):=fun l=>SE l i 1
 have hl:(jA m (0:Int)).length = m:=tA
 have hfl:∀ x:Int,(List.map Cell.c (fI x)).length = 1:=fun x=>rfl
 have hdr:∀ x:Int,List.drop 1 (List.map Cell.c (fI x)) = []:=fun x=>rfl
 refine WA (rs:=[(RV.tmp 4)]) Tryz.func147 (fun a w=>Tryz.call147 a w) body147 cc147 (by kernel_rfl) ?_
 rw [Tryz.ntmps147]
 simp only [pC,nA,nS]
 repeat (first | (with_reducible first | refine W8 ?_ | refine VA rfl ?_) | ((with_reducible refine X8 fun K hK=>?_);simp (disch:=first | omega | simp only [sB];omega) only [qB,reduceIte,reduceCtorEq,iT,nA,nS,nM,iA,iS,iM,iN,fU,sS,hl,hs1,hdr,hfl];subst hK) | (apply call_ret_w1 (hints) rfl;(case hcl=>(simp only [oE,St.ev,yB,NE];(repeat (first | exact kB | (apply gB;(first | (refine CB rfl (by decide)) | (refine BB rfl (by decide) ?_;assumption) | rfl))));done));(case hu=>(simp only [oE,St.ev,yB,NE];(repeat (first | exact RC | (apply AC;(first | (apply xC;rfl) | rfl))));done));(case hh=>((simp only [YH,nB,nA,IA,if_true,if_false,reduceIte]) <;> rfl));intro bb))
 exact ⟨_,rfl,rfl⟩
structure SFits (S:SD) (L:Nat):Prop extends S.Wf where
 nb:S.n <= 5000
 mb:S.m <= 90
 colf:∀ r ∈ S.cols,∀ q ∈ r,SB q L
 bf:∀ q ∈ S.b,SB q L
 l1:1 <= L
 l2:L <= 20000
 l3:4 ^ S.m * (L + 1) <= 4000000
 l4:S.m * (4 ^ S.m * (L + 1) + L + 1) <= 8989000
theorem rH (S:SD):UA (TD S) = S.cols.map aQ:=WB _
theorem KM {S:SD} {k:Nat} (h:k < (UA (TD S)).length):(UA (TD S))[k] = aQ (S.cols.getD k []):=by
 have h':k < S.cols.length:=by rw [rH,eA] at h;exact h
 have:(UA (TD S))[k] = (S.cols.map aQ)[k]'(by rw [eA];exact h'):=by congr 1;exact rH S
 rw [this,List.getElem_map,bA,aA h'];rfl
abbrev c145:CC:=(.seq (.reg [(oD 4 (.mv nC))]) (.seq (.seq (.reg [(mV 5 1),(mV 6 0),(fA 7 0 6),(fA 8 0 7),(lF 9 1 8),(bB 10 .geq 5 9)]) (.cond (tP 10) (.seq (.reg [(mV 11 0),(fA 12 0 11),(fA 13 1 12),(lF 14 1 13),(mV 15 1),(mV 16 0),(fA 17 0 16),(fA 18 0 17),(lF 19 1 18),(bB 20 .sub 15 19),(oD 21 (.callf (.func 147) [(tP 14),(tP 20)])),(mV 4 21)]) .ret) .skip)) (.seq (.reg [(mV 22 0),(fA 23 0 22),(fA 24 2 23),(lF 25 1 24),(mV 26 1),(xA 27 1 25 26),(lF 28 1 27),(mV 4 28)]) .ret)))
theorem cc145:ZA Tryz.prog [] (Tryz.f145.body.getD .skip) = PA c145:=by kernel_rfl
theorem body145:Tryz.f145.body = PA (Tryz.f145.body.getD .skip):=rfl
theorem column_O (S:SD) (L:Nat) (hS:SFits S L) (k:Nat) (hk:k < S.n + S.m) (v:Nat) (mn:CV) (bc:Cell) (st bu:Int) (wk:CV) (P0 P1 P2:Blk) (X:List Blk) :
  DE Tryz.prog 145 [aT v,aI k] (P0 :: P1 :: P2 :: tB S v mn bc st bu wk :: X) (aV (aQ (OC S k))) (P0 :: P1 :: P2 :: tB S v mn bc st bu wk :: X):=by
 have hnb:=hS.nb
 have hmb:=hS.mb
 have hcl:=hS.cl
 have hcols:(UA (TD S)).length = S.n:=by rw [rH,eA];exact hcl
 unfold tB
 by_cases h:S.n <= k
 ·have hu:=unit_C S.m (k - S.n) (by omega) (by omega)
  have e:OC S k = wH S.m (k - S.n):=if_pos h
  rw [e]
  have hs:(k:Int) - (S.n:Int) = ((k - S.n:Nat):Int):=by omega
  refine uF (rs:=[(RV.tmp 4)]) Tryz.func145 (fun a w=>Tryz.call145 a w) body145 cc145 (by kernel_rfl) ?_
  rw [Tryz.ntmps145]
  simp only [pC,nA,nS]
  repeat (first | (with_reducible first | refine W8 ?_ | refine VA rfl ?_) | ((with_reducible refine X8 fun K hK=>?_);simp (disch:=first | omega | simp only [sB];omega) only [qB,reduceIte,reduceCtorEq,iT,nA,nS,nM,iA,iS,iM,iN,fU,hs];subst hK) | refine KB (hu) rfl rfl rfl ?_)
  exact ⟨rfl,rfl⟩
 ·have e:OC S k = S.cols.getD k []:=if_neg h
  have hk2:k < (UA (TD S)).length:=by omega
  rw [e,<- KM hk2]
  refine uF (rs:=[(RV.tmp 4)]) Tryz.func145 (fun a w=>Tryz.call145 a w) body145 cc145 (by kernel_rfl) ?_
  rw [Tryz.ntmps145]
  simp only [pC,nA,nS]
  repeat (first | (with_reducible first | refine W8 ?_ | refine VA rfl ?_) | ((with_reducible refine X8 fun K hK=>?_);simp (disch:=first | omega | simp only [sB];omega) only [qB,reduceIte,reduceCtorEq,iT,nA,nS,nM,iA,iS,iM,iN,fU,fM];subst hK))
  exact ⟨rfl,rfl⟩
def BsL (S:SD) (bs:List Nat):Prop:=bs.length = S.m /\ ∀ j,j < bs.length -> bs.getD j 0 < S.n + S.m
theorem sH {bs:List Nat} {i:Nat} (h:i < (MB bs).length):(MB bs)[i] = ((bs.getD i 0:Nat):Int):=by
 have h':i < bs.length:=by rw [eC] at h;exact h
 have e:(MB bs)[i] = ((bs[i]:Nat):Int):=List.getElem_map ..
 rw [e,bA,aA h'];rfl
def sqTo (S:SD) (bs:List Nat) (i:Nat):QM:=(List.range i).map fun j=>OC S (bs.getD j 0)
theorem sqTo_succ (S:SD) (bs:List Nat) (i:Nat):sqTo S bs (i + 1) = sqTo S bs i ++ [OC S (bs.getD i 0)]:=by unfold sqTo;rw [List.range_succ,List.map_append];rfl
theorem sqTo_all (S:SD) (bs:List Nat):sqTo S bs bs.length = WK S bs:=by
 unfold sqTo WK
 refine List.ext_getElem (by rw [eA,List.length_range,eA]) (fun i h1 h2=>?_)
 have h3:i < bs.length:=by rw [eA] at h2;exact h2
 rw [List.getElem_map,List.getElem_range,List.getElem_map,bA,aA h3];rfl
abbrev c136_k1:CC:=(.seq (.reg [(mV 22 3),(mV 2 22)]) .ret)
abbrev c136_b1:CC:=(.seq (.reg [(bB 12 .lss 11 10)]) (.seq (.cond (tP 12) .skip (.exit 0)) (.seq (.block 1 (.seq (.reg [(xA 13 1 9 11),(lF 14 1 13),(mV 5 14)]) (.reg [(mV 15 3),(mV 16 0),(mV 17 5),(oD 18 (.callf (.func 145) [(tP 16),(tP 17)])),(oD 19 (.mkrow 23 1 [(tP 18)])),(oD 20 (.append 23 1 24 (tP 15) (tP 19))),(mV 3 20)]))) (.reg [(bC 21 .add 11 1),(mV 11 21)]))))
abbrev c136:CC:=(.seq (.reg [(oD 2 (.mv nC))]) (.seq (.reg [(oD 3 (.mv nC))]) (.seq (.seq (.reg [(mV 6 0),(fA 7 0 6),(fA 8 5 7),(lF 9 1 8),(nL 10 9),(mI 11 0)]) (.block 0 (.loop c136_b1))) c136_k1)))
theorem cc136:ZA Tryz.prog [1000145] (Tryz.f136.body.getD .skip) = PA c136:=by kernel_rfl
theorem body136:Tryz.f136.body = PA (Tryz.f136.body.getD .skip):=rfl
theorem square_O (S:SD) (L:Nat) (hS:SFits S L) (bs:List Nat) (hb:BsL S bs) (v vb:Nat) (nb:Bool) (mn:CV) (st bu:Int) (wk:CV) (P0 P1 P2 R:Blk) (h0:aK P0) (h1:aK P1) (h2:aK P2) (hR:aK R) :
  DE Tryz.prog 136 [aT v] [P0,P1,P2,tB S v mn (.own 4 vb) st bu wk,⟨vb,3,1,wB fI (MB bs),SA,nb⟩,R] (aM (aC ((WK S bs).map aQ))) [P0,P1,P2,tB S v mn (.own 4 vb) st bu wk,⟨vb,3,1,wB fI (MB bs),SA,nb⟩,R]:=by
 have hbl:=eC bs
 have hm:=hS.mb
 have hb1:=hb.1
 unfold aK at h0 h1 h2 hR
 have hcol:=fun k hk X=>column_O S L hS k hk v mn (.own 4 vb) st bu wk P0 P1 P2 X
 unfold tB at hcol
 unfold tB
 refine uF (rs:=[(RV.tmp 2)]) Tryz.func136 (fun a w=>Tryz.call136 a w) body136 cc136 (by kernel_rfl) ?_
 rw [Tryz.ntmps136]
 simp only [pC,nA,nS]
 repeat (first | (with_reducible first | refine W8 ?_ | refine VA rfl ?_) | ((with_reducible refine X8 fun K hK=>?_);simp (disch:=first | omega | simp only [sB];omega) only [qB,reduceIte,reduceCtorEq,iT,nA,nS,nM,iA,iS,iM,iN,fU];subst hK))
 refine uD.fgt ?_ (TB.openNil (i:=3) rfl 23 1)
 simp only [lA,mA,pA,oA,qA,rA,nA]
 refine xB (fun (zz:Nat × (List VV) × Nat × Bool)=>⟨(aT v :: .junk :: .junk :: .one (.own 6 zz.2.2.1) :: J4 (.junk :: .one (.own 4 vb) :: aI bs.length :: aI zz.1 :: J8 (.junk :: .junk :: .junk :: []))),[P0,P1,P2,⟨v,113,9,[[.c (.val (.int .i64 (S.n:Int))),.c (.val (.int .i64 (S.m:Int))),.c (jB 1 fM (TD S)),.c (vr (aQ S.b)),.c mn,.own 4 vb,.c (.val (.int .i64 st)),.c (.val (.int .i64 bu)),.c wk]],SA,SA⟩,⟨vb,3,1,wB fI (MB bs),SA,nb⟩,R,⟨zz.2.2.1,23,1,wB fM zz.2.1,SA,zz.2.2.2⟩]⟩) (fun (zz:Nat × (List VV) × Nat × Bool)=>zz.1 <= bs.length /\ zz.2.1 = (sqTo S bs zz.1).map aQ /\ zz.2.2.2 = !zz.2.1.isEmpty) (fun (zz:Nat × (List VV) × Nat × Bool)=>bs.length - zz.1) (0,[],0,TA) ?hI1 (TB.head (show _ <= 7 from Nat.le_of_ble_eq_true rfl) [SA,TA,TA,SA,TA,TA,TA,TA,TA,SA,SA,SA] ?hT1 ?hH1) ?hB1
 case hT1 | hH1=>first | (simp (disch:=omega) only [pD,IB,lB,XA,clean1,JB,reduceIte,iS,iA,iN,CE,h0,h1,h2,hR,hbl];done) | rfl
 ·dsimp only;exact ⟨fN _,rfl,rfl⟩
 rintro ⟨i,out,u,nn⟩ ⟨hi,ho,hnn⟩
 dsimp only at hi ho hnn
 by_cases him:i = bs.length
 ·refine uD.fgt ?_ (TB.closeO (i:=3) rfl rfl (by decide) hnn)
  rw [oC]
  simp only [lA,mA,YH,EB,nB,nA,IA,if_true,if_false,reduceIte]
  refine uD.fgt ?hA2 (TB.head (t':=(aT v :: .junk :: .junk :: aM (aC out) :: J4 (.junk :: .junk :: aI bs.length :: aI i :: J8 (.junk :: .junk :: .junk :: [])))) (h':=[P0,P1,P2,⟨v,113,9,[[.c (.val (.int .i64 (S.n:Int))),.c (.val (.int .i64 (S.m:Int))),.c (jB 1 fM (TD S)),.c (vr (aQ S.b)),.c mn,.own 4 vb,.c (.val (.int .i64 st)),.c (.val (.int .i64 bu)),.c wk]],SA,SA⟩,⟨vb,3,1,wB fI (MB bs),SA,nb⟩,R]) (show _ <= 6 from Nat.le_of_ble_eq_true rfl) [SA,TA,TA,SA,TA,TA,TA,TA,TA,TA,SA,SA] ?hT2 ?hH2)
  case hT2 | hH2=>first | (simp (disch:=omega) only [pD,IB,lB,XA,clean1,JB,reduceIte,iS,iA,iN,h0,h1,h2,hR];done) | rfl
  rw [him,sqTo_all] at ho
  subst ho
  repeat (first | (with_reducible first | refine W8 ?_ | refine VA rfl ?_) | ((with_reducible refine X8 fun K hK=>?_);simp (disch:=first | omega | simp only [sB];omega) only [qB,reduceIte,reduceCtorEq,iT,nA,nS,nM,iA,iS,iM,iN,fU];subst hK))
  exact ⟨rfl,rfl⟩
 ·have hlt:i < bs.length:=by omega
  have hlt2:i < (MB bs).length:=by omega
  have hcc:=hcol (bs.getD i 0) (hb.2 i hlt)
  have hg:=sH hlt2
  have hol:out.length = i:=by rw [ho,eA];unfold sqTo;rw [eA,List.length_range]
  have hsn:wB fM out ++ [[Cell.c (vr (aQ (OC S (bs.getD i 0))))]] = wB fM (out ++ [aQ (OC S (bs.getD i 0))]):=by rw [<- XC];rfl
  repeat (first | (with_reducible first | refine W8 ?_ | refine VA rfl ?_) | ((with_reducible refine X8 fun K hK=>?_);simp (disch:=first | omega | simp only [sB];omega) only [qB,reduceIte,reduceCtorEq,iT,nA,nS,nM,iA,iS,iM,iN,fU,hg,fI];subst hK) | (apply bD ((hcc _)) rfl rfl))
  refine ⟨(i + 1,out ++ [aQ (OC S (bs.getD i 0))],u + 1,SA),?hI3,?hM3,TB.head (show _ <= 7 from Nat.le_of_ble_eq_true rfl) [SA,TA,TA,SA,TA,TA,TA,TA,TA,SA,SA,SA] ?hT3 ?hH3⟩
  case hT3 | hH3=>first | (simp (disch:=omega) only [pD,IB,lB,XA,clean1,JB,reduceIte,iS,iA,iN,h0,h1,h2,hR,hsn,hbl,kA,KA,LA];done) | rfl
  ·dsimp only;refine ⟨by omega,by rw [ho,sqTo_succ,List.map_append];rfl,by cases out <;> rfl⟩
  ·dsimp only;omega
def mL (Q:QM):MM:=aC (Q.map aQ)
theorem osl_mL (Q:QM):UA (mL Q) = Q.map aQ:=WB _
theorem wI (Q:QM):(UA (mL Q)).length = Q.length:=by rw [osl_mL,eA]
theorem mAt_mL {Q:QM} {i:Nat} (h:i < Q.length):RJ (mL Q) i = aQ (Q.getD i []):=by
 unfold RJ
 rw [osl_mL]
 exact tH Q aQ i [] QA h
theorem gP (l:List Rat):(UA (aQ l)).map (fun r=>r.val) = l:=by rw [RE];exact map_val_raw l
theorem qM_mL (Q:QM):qM (mL Q) = Q:=by
 unfold qM
 rw [osl_mL,uA]
 conv=>rhs;rw [<- List.map_id Q]
 exact wA (fun r _=>gP r)
theorem wV (l:List Rat) (i:Nat):jE (aQ l) i = l.getD i 0:=qAt_rw l i
theorem nE {l:List Rat} {n L:Nat} (hn:l.length <= n) (h:∀ q ∈ l,SB q L):vC (aQ l) n L:=UO hn h
theorem YO {Q:QM} {n m:Nat} (h:BI Q n m) (h0:n ≠ 0):cols (mL Q) = m:=by
 unfold cols
 rw [mAt_mL (by rw [h.1];omega),nD]
 exact h.2 0 (by omega)
theorem rect_mL {Q:QM} {n m:Nat} (h:BI Q n m):kF (mL Q) (UA (mL Q)).length = SA:=by
 unfold kF
 rw [List.all_eq_true]
 intro i hi
 rw [zA,wI,h.1] at hi
 rw [mAt_mL (by rw [h.1];exact hi),nD,YO h (by omega),h.2 i hi]
 simp
theorem fits_mL {Q:QM} {n m k L:Nat} (h:Wf Q n m L) (hn:n <= k) (hm:m <= k):LG (mL Q) k L:=by
 refine ⟨by rw [wI,h.1];exact hn,fun v hv=>?_⟩
 rw [osl_mL] at hv
 obtain ⟨r,hr,rfl⟩:=yA.1 hv
 have:=h.2 r hr
 exact nE (by omega) this.2
theorem ok_mL {Q:QM} {n m L:Nat} (h:Wf Q n m L) (hn:n <= 200) (hm:m <= 200):MR (mL Q) = SA:=ok_of (fits_mL h hn hm) (EA _) (rect_mL h.shp)
theorem rawV_rowV {l:List Rat} (h:l.length ≠ 0):ED l = aQ l:=by
 cases l with
 | nil=>exact (h rfl).elim
 | cons a l=>rfl
theorem turnQ_mL {Q:QM} {n:Nat} (h:BI Q n n):turnQ (mL Q) = gF n Q:=by
 by_cases h0:n = 0
 ·subst h0
  obtain rfl:Q = []:=List.length_eq_zero_iff.1 h.1
  rfl
 ·unfold turnQ gF
  rw [YO h h0,wI,h.1]
  refine wA (fun k _=>?_)
  unfold FO
  refine wA (fun j _=>?_)
  rw [<- eQ_qM,qM_mL]
theorem turn_rows {n:Nat} (Q:QM):((gF n Q).map ED) = (gF n Q).map aQ:=by
 refine wA (fun r hr=>rawV_rowV ?_)
 obtain ⟨i,hi,rfl⟩:=List.mem_iff_getElem.1 hr
 have:=(pH n Q).2 i (by rw [<- (pH n Q).1];exact hi)
 rw [bA,aA hi] at this
 have h1:=(pH n Q).1
 show (gF n Q)[i].length ≠ 0
 have e:((PA (gF n Q)[i]).getD []).length = (gF n Q)[i].length:=rfl
 omega
theorem turn_L (Q:QM) (n L:Nat) (h:Wf Q n n L) (hn:n <= 200) (hL2:L <= 1000000):YA Tryz.prog 135 [aM (mL Q)] (.ret (aM (mL (gF n Q)))):=by
 have h1:=turn_yes (mL Q) 200 L (fits_mL h hn hn) (by decide) hL2 (ok_mL h hn hn)
 rw [turnQ_mL h.shp,turn_rows] at h1
 exact YA.fresh_rowO h1
def LC (b:VV):List Rat:=(UA b).map fun r=>r.val
theorem dS (l:List Rat):LC (aQ l) = l:=gP l
theorem YL (b:VV):(LC b).length = (UA b).length:=eA ..
theorem LO (b:VV) (i:Nat):(LC b).getD i 0 = jE b i:=by
 unfold LC jE dF
 rw [bA,bA,List.getElem?_map]
 cases (UA b)[i]? with
 | none=>exact cP.symm
 | some r=>rfl
theorem CK {b:VV} {n L:Nat} (h:vC b n L) (hL:1 <= L):∀ q ∈ LC b,SB q L:=fun q hq=>by
 unfold LC at hq
 obtain ⟨r,hr,rfl⟩:=yA.1 hq
 exact (h.2 r hr).val hL
theorem aug_mL {Q:QM} {n:Nat} (h:BI Q n n) (b:VV) (hb:(UA b).length = n):qM (IJ (mL Q) b) = lH Q (LC b):=by
 unfold qM IJ lH
 rw [WB]
 unfold rL
 rw [uA,wI]
 refine wA (fun i hi=>?_)
 have hi':i < Q.length:=zA.1 hi
 show (UA (XR (RJ (mL Q) i) (dF b i))).map (fun r=>r.val) = _
 unfold XR
 rw [osl_some,List.map_append,mAt_mL hi',gP,LO]
 rfl
theorem kT {Q:QM} {n:Nat} (h:BI Q n n) (b:VV) (hb:(UA b).length = n):VH (mL Q) b = rC (lH Q (LC b)) (n + 1):=by
 unfold VH
 rw [aug_mL h b hb]
 by_cases h0:n = 0
 ·subst h0
  obtain rfl:Q = []:=List.length_eq_zero_iff.1 h.1
  rfl
 ·rw [SM _ _ (rect_mL h) (by rw [YO h h0,wI,h.1]) (by rw [wI,h.1];exact h0),wI,h.1]
theorem sol_is {Q:QM} {n:Nat} (h:BI Q n n) (b:VV) (hb:(UA b).length = n):sP (mL Q) b = .tup [aV (aQ (ZH Q (LC b))),aI (if ZM (lH Q (LC b)) n then 0 else 8)]:=by
 have hI:=XF (PO h (LC b)) (n + 1) (EA _)
 have hle:=hI.le
 have e:NO (mL Q) b = ZM (lH Q (LC b)) n:=by
  unfold NO ZM
  rw [kT h b hb,wI,h.1]
  congr 1
  rw [decide_eq_decide]
  omega
 unfold sP ZH
 rw [e,h.1]
 cases hq:ZM (lH Q (LC b)) n with
 | true =>
  rw [if_pos rfl,if_pos rfl,if_pos rfl]
  unfold solveQ
  rw [kT h b hb,wI,h.1]
  rfl
 | false =>
  rw [if_neg (by simp),if_neg (by simp),if_neg (by simp)]
  rfl
theorem solve_V (Q:QM) (b:VV) (n L:Nat) (h:Wf Q n n L) (hb:(UA b).length = n) (hbf:∀ r ∈ UA b,vD r L) (hn:n <= 90) (hL:1 <= L) (hL2:L <= 20000) (hB:4 ^ n * (L + 1) <= 4000000) :
  YA Tryz.prog 134 [aM (mL Q),aV b] (.ret (.tup [aV (aQ (ZH Q (LC b))),aI (if ZM (lH Q (LC b)) n then 0 else 8)])):=by
 have hl:(UA (mL Q)).length = n:=by rw [wI];exact h.1
 have:=solve_full (mL Q) b 200 L (fits_mL h (by omega) (by omega)) ⟨by omega,hbf⟩ (by decide) hL hL2 (ok_mL h (by omega) (by omega)) (by
  by_cases h0:n = 0
  ·rw [cols_zero (by omega),hl,h0]
  ·rw [YO h.shp h0,hl]) (by rw [hl,hb]) (by omega) (by rw [hl];exact hB)
 rw [sol_is h.shp b hb] at this
 exact this
theorem solve_L (Q:QM) (b:List Rat) (n L:Nat) (h:Wf Q n n L) (hb:b.length = n) (hbf:∀ q ∈ b,SB q L) (hn:n <= 90) (hL:1 <= L) (hL2:L <= 20000) (hB:4 ^ n * (L + 1) <= 4000000) :
  YA Tryz.prog 134 [aM (mL Q),aV (aQ b)] (.ret (.tup [aV (aQ (ZH Q b)),aI (if ZM (lH Q b) n then 0 else 8)])):=by
 have:=solve_V Q (aQ b) n L h (by rw [nD,hb]) (fun r hr=>by
  rw [RE] at hr
  obtain ⟨q,hq,rfl⟩:=yA.1 hr
  exact QB (hbf q hq)) hn hL hL2 hB
 rw [dS] at this
 exact this
theorem wf_augL {Q:QM} {n L:Nat} (h:Wf Q n n L) (hL:1 <= L) {b:List Rat} (hb:b.length = n) (hbf:∀ q ∈ b,SB q L):Wf (lH Q b) n (n + 1) L:=by
 refine ⟨(PO h.shp b).1,fun r hr=>?_⟩
 unfold lH at hr
 obtain ⟨i,hi,rfl⟩:=yA.1 hr
 have hi':i < n:=by rw [<- h.1];exact zA.1 hi
 refine ⟨by rw [sA,(h.row hi').1];rfl,fun q hq=>?_⟩
 rcases List.mem_append.1 hq with h1 | h1
 ·exact (h.row hi').2 q h1
 ·rw [List.mem_singleton.1 h1,bA,aA (by omega)]
  exact hbf _ (gA _)
theorem wF {Q:QM} {n L:Nat} (h:Wf Q n n L) (hL:1 <= L) {b:List Rat} (hb:b.length = n) (hbf:∀ q ∈ b,SB q L):∀ q ∈ ZH Q b,SB q (4 ^ n * (L + 1)):=by
 intro q hq
 unfold ZH at hq
 split at hq
 ·obtain ⟨r,hr,rfl⟩:=yA.1 hq
  rw [h.1] at hr ⊢
  obtain ⟨h1,h2,h3⟩:=CP (wf_augL h hL hb hbf) hL (n + 1) (EA _)
  have h4:=h2.2 r hr
  have h5:n < r.length:=by rw [h4.1];omega
  rw [bA,aA h5]
  refine (h4.2 _ (gA _)).mono ?_
  have:4 ^ (rC (lH Q b) (n + 1)).2.length * (L + 1) <= 4 ^ n * (L + 1):=Nat.mul_le_mul_right _ (Nat.pow_le_pow_right (by decide) h1)
  omega
 ·cases hq
theorem fits01 {L:Nat} (hL:1 <= L) (c:Prop) [Decidable c]:SB (if c then 1 else 0) L:=by
 split
 ·exact FE L hL
 ·exact HC L hL
theorem fits_col {S:SD} {L:Nat} (hS:SFits S L) (k:Nat):∀ q ∈ OC S k,SB q L:=by
 intro q hq
 unfold OC at hq
 split at hq
 ·unfold wH at hq
  obtain ⟨j,_,rfl⟩:=yA.1 hq
  exact fits01 hS.l1 _
 ·rename_i h
  have h':k < S.cols.length:=by have:=hS.cl;omega
  rw [bA,aA h'] at hq
  exact hS.colf _ (gA h') q hq
theorem LJ {S:SD} {L:Nat} (hS:SFits S L) {bs:List Nat} (hb:bs.length = S.m):Wf (WK S bs) S.m S.m L:=by
 refine ⟨(shp_sq hS.toWf hb).1,fun r hr=>?_⟩
 unfold WK at hr
 obtain ⟨k,_,rfl⟩:=yA.1 hr
 exact ⟨col_len hS.toWf k,fits_col hS k⟩
theorem vH {Q:QM} {n L:Nat} (h:Wf Q n n L):Wf (gF n Q) n n L:=by
 refine ⟨(pH n Q).1,fun r hr=>?_⟩
 unfold gF at hr
 obtain ⟨k,hk,rfl⟩:=yA.1 hr
 refine ⟨by rw [eA,List.length_range],fun q hq=>?_⟩
 obtain ⟨j,hj,rfl⟩:=yA.1 hq
 exact h.at (zA.1 hj) (zA.1 hk)
abbrev c108:CC:=(.seq (.reg [(oD 4 (.mv nC))]) (.seq (.reg [(mV 8 0),(oD 9 (.callf (.func 136) [(tP 8)])),(oD 10 (.callf (.func 135) [(tP 9)])),(mV 11 1),(oD 12 (.callf (.func 134) [(tP 10),(tP 11)])),(mV 7 12),(eX 13 7 0),(eX 14 7 1),(mV 5 13),(mV 6 14)]) (.seq (.reg [(mV 15 5),(mV 4 15)]) .ret)))
theorem cc108:ZA Tryz.prog [1000136] (Tryz.f108.body.getD .skip) = PA c108:=by kernel_rfl
theorem body108:Tryz.f108.body = PA (Tryz.f108.body.getD .skip):=rfl
theorem yT (S:SD) (L:Nat) (hS:SFits S L) (bs:List Nat) (hb:BsL S bs) (b:List Rat) (hbl:b.length = S.m) (hbf:∀ q ∈ b,SB q L) (v vb:Nat) (nb:Bool) (mn:CV) (st bu:Int) (wk:CV) (P0 P1 P2 R:Blk) (h0:aK P0) (h1:aK P1) (h2:aK P2) (hR:aK R) :
  DE Tryz.prog 108 [aT v,aV (aQ b)] [P0,P1,P2,tB S v mn (.own 4 vb) st bu wk,⟨vb,3,1,wB fI (MB bs),SA,nb⟩,R] (aV (aQ (ZH (gF S.m (WK S bs)) b))) [P0,P1,P2,tB S v mn (.own 4 vb) st bu wk,⟨vb,3,1,wB fI (MB bs),SA,nb⟩,R]:=by
 have hm:=hS.mb
 have l2:=hS.l2
 have hsq:=square_O S L hS bs hb v vb nb mn st bu wk P0 P1 P2 R h0 h1 h2 hR
 change DE _ _ _ _ (aM (mL (WK S bs))) _ at hsq
 have hw:=LJ hS hb.1
 have htn:=turn_L (WK S bs) S.m L hw (by omega) (by omega)
 have hso:=solve_L (gF S.m (WK S bs)) b S.m L (vH hw) hbl hbf hm hS.l1 l2 hS.l3
 generalize (if ZM (lH (gF S.m (WK S bs)) b) S.m then (0:Int) else 8) = er at hso
 unfold tB at hsq
 unfold tB
 refine uF (rs:=[(RV.tmp 4)]) Tryz.func108 (fun a w=>Tryz.call108 a w) body108 cc108 (by kernel_rfl) ?_
 rw [Tryz.ntmps108]
 simp only [pC,nA,nS]
 repeat (first | (with_reducible first | refine W8 ?_ | refine VA rfl ?_) | ((with_reducible refine X8 fun K hK=>?_);simp (disch:=first | omega | simp only [sB];omega) only [qB,reduceIte,reduceCtorEq,iT,nA,nS,nM,iA,iS,iM,iN,fU];subst hK) | (apply bD (hsq) rfl rfl) | refine KB (htn) rfl rfl rfl ?_ | refine KB (hso) rfl rfl rfl ?_)
 exact ⟨rfl,rfl⟩
def costTo (S:SD) (costs:List Rat) (own:Rat) (bs:List Nat) (i:Nat):List Rat:=(List.range i).map fun j=>zD S costs own (bs.getD j 0)
theorem costTo_all (S:SD) (costs:List Rat) (own:Rat) (bs:List Nat):costTo S costs own bs bs.length = bs.map (zD S costs own):=by
 unfold costTo
 refine List.ext_getElem (by rw [eA,List.length_range,eA]) (fun i h1 h2=>?_)
 have h3:i < bs.length:=by rw [eA] at h2;exact h2
 rw [List.getElem_map,List.getElem_range,List.getElem_map,bA,aA h3];rfl
theorem IK {l:List Rat} {k:Nat} (h:k < (UA (aQ l)).length):(UA (aQ l))[k] = eB (l.getD k 0):=by
 have h':k < l.length:=by rw [nD] at h;exact h
 have:(UA (aQ l))[k] = (l.map eB)[k]'(by rw [eA];exact h'):=by congr 1;exact RE l
 rw [this,List.getElem_map,bA,aA h'];rfl
def cR (S:SD) (C:VV) (own:Rat) (k:Nat):RR:=if S.n <= k then eB own else dF C k
def JO (S:SD) (C:VV) (own:Rat) (bs:List Nat) (i:Nat):List RR:=(List.range i).map fun j=>cR S C own (bs.getD j 0)
theorem cRTo_succ (S:SD) (C:VV) (own:Rat) (bs:List Nat) (i:Nat):JO S C own bs (i + 1) = JO S C own bs i ++ [cR S C own (bs.getD i 0)]:=by unfold JO;rw [List.range_succ,List.map_append];rfl
theorem cR_val (S:SD) (C:VV) (own:Rat) (k:Nat):(cR S C own k).val = zD S (LC C) own k:=by
 unfold cR zD
 split
 ·exact rawQ_val _
 ·rw [LO];rfl
theorem cRTo_vals (S:SD) (C:VV) (own:Rat) (bs:List Nat):LC (aC (JO S C own bs bs.length)) = bs.map (zD S (LC C) own):=by
 show (UA (aC (JO S C own bs bs.length))).map (fun r=>r.val) = _
 rw [WB]
 unfold JO
 rw [uA]
 have:=costTo_all S (LC C) own bs
 unfold costTo at this
 rw [<- this]
 exact wA (fun j _=>cR_val S C own _)
theorem cR_fits {S:SD} {C:VV} {own:Rat} {L:Nat} (hC:∀ r ∈ UA C,vD r L) (ho:SB own L) (k:Nat):vD (cR S C own k) L:=by
 unfold cR
 split
 ·exact QB ho
 ·exact vC.at (n:=(UA C).length) ⟨EA _,hC⟩ k
abbrev c109_k1:CC:=(.seq (.reg [(mV 40 0),(oD 41 (.callf (.func 136) [(tP 40)])),(mV 42 7),(oD 43 (.callf (.func 134) [(tP 41),(tP 42)])),(mV 39 43),(eX 44 39 0),(eX 45 39 1),(mV 10 44),(mV 11 45)]) (.seq (.reg [(mV 46 10),(mV 6 46)]) .ret))
abbrev c109_b1:CC:=(.seq (.reg [(bB 18 .lss 17 16)]) (.seq (.cond (tP 18) .skip (.exit 0)) (.seq (.block 1 (.seq (.reg [(xA 19 1 15 17),(lF 20 1 19),(mV 9 20)]) (.seq (.reg [(mV 21 9),(mV 22 0),(fA 23 0 22),(fA 24 0 23),(lF 25 1 24),(bB 26 .geq 21 25)]) (.cond (tP 26) (.reg [(mV 27 7),(lT 28 3 5),(oD 29 (.mkrow 48 3 [(tP 28)])),(oD 30 (.append 48 3 56 (tP 27) (tP 29))),(mV 7 30)]) (.reg [(mV 31 7),(mV 32 1),(mV 33 9),(xA 34 3 32 33),(lT 35 3 34),(oD 36 (.mkrow 48 3 [(tP 35)])),(oD 37 (.append 48 3 56 (tP 31) (tP 36))),(mV 7 37)]))))) (.reg [(bC 38 .add 17 1),(mV 17 38)]))))
abbrev c109:CC:=(.seq (.reg [(oD 5 (.box 48 (tP 2))),(oD 6 (.mv nC))]) (.seq (.reg [(oD 7 (.mv nC))]) (.seq (.seq (.reg [(mV 12 0),(fA 13 0 12),(fA 14 5 13),(lF 15 1 14),(nL 16 15),(mI 17 0)]) (.block 0 (.loop c109_b1))) c109_k1)))
theorem cc109:ZA Tryz.prog [1000136] (Tryz.f109.body.getD .skip) = PA c109:=by kernel_rfl
theorem body109:Tryz.f109.body = PA (Tryz.f109.body.getD .skip):=rfl
theorem prices_O (S:SD) (L:Nat) (hS:SFits S L) (bs:List Nat) (hb:BsL S bs) (C:VV) (own:Rat) (hcl:(UA C).length = S.n) (hcf:∀ r ∈ UA C,vD r L) (hof:SB own L) (v vb:Nat) (nb:Bool) (mn:CV) (st bu:Int) (wk:CV) (P0 P1 P2 R:Blk) (h0:aK P0) (h1:aK P1) (h2:aK P2) (hR:aK R) :
  DE Tryz.prog 109 [aT v,aV C,aR (eB own)] [P0,P1,P2,tB S v mn (.own 4 vb) st bu wk,⟨vb,3,1,wB fI (MB bs),SA,nb⟩,R] (aV (aQ (yL S (LC C) own bs))) [P0,P1,P2,tB S v mn (.own 4 vb) st bu wk,⟨vb,3,1,wB fI (MB bs),SA,nb⟩,R]:=by
 have hm:=hS.mb
 have hn:=hS.nb
 have l2:=hS.l2
 have hbl:=eC bs
 have hb1:=hb.1
 have hsq:=square_O S L hS bs hb v vb nb mn st bu wk P0 P1 P2 R h0 h1 h2 hR
 change DE _ _ _ _ (aM (mL (WK S bs))) _ at hsq
 have hw:=LJ hS hb1
 have hcr:=cRTo_vals S C own bs
 have hso:=solve_V (WK S bs) (aC (JO S C own bs bs.length)) S.m L hw (by rw [WB];unfold JO;rw [eA,List.length_range];exact hb1) (fun r hr=>by
  rw [WB] at hr
  unfold JO at hr
  obtain ⟨j,_,rfl⟩:=yA.1 hr
  exact cR_fits hcf hof _) hm hS.l1 l2 hS.l3
 rw [hcr] at hso
 generalize (if ZM (lH (WK S bs) (bs.map (zD S (LC C) own))) S.m then (0:Int) else 8) = er at hso
 change YA _ _ _ (.ret (.tup [aV (aQ (yL S (LC C) own bs)),aI er])) at hso
 unfold aK at h0 h1 h2 hR
 unfold tB at hsq
 unfold tB
 refine uF (rs:=[(RV.tmp 6)]) Tryz.func109 (fun a w=>Tryz.call109 a w) body109 cc109 (by kernel_rfl) ?_
 rw [Tryz.ntmps109]
 simp only [pC,nA,nS]
 repeat (first | (with_reducible first | refine W8 ?_ | refine VA rfl ?_) | ((with_reducible refine X8 fun K hK=>?_);simp (disch:=first | omega | simp only [sB];omega) only [qB,reduceIte,reduceCtorEq,iT,nA,nS,nM,iA,iS,iM,iN,fU];subst hK))
 refine uD.fgt ?_ (TB.openNil (i:=7) rfl 48 3)
 simp only [lA,mA,pA,oA,qA,rA,nA]
 refine xB (fun (zz:Nat × (List RR) × Nat × Bool)=>⟨(aT v :: aV C :: .junk :: .junk :: .junk :: .one (.ptr 6 0 0 0) :: .junk :: .one (.own 7 zz.2.2.1) :: J4 (.junk :: .junk :: .junk :: .one (.own 4 vb) :: aI bs.length :: aI zz.1 :: L8 (J8 (J4 (.junk :: []))))),[P0,P1,P2,⟨v,113,9,[[.c (.val (.int .i64 (S.n:Int))),.c (.val (.int .i64 (S.m:Int))),.c (jB 1 fM (TD S)),.c (vr (aQ S.b)),.c mn,.own 4 vb,.c (.val (.int .i64 st)),.c (.val (.int .i64 bu)),.c wk]],SA,SA⟩,⟨vb,3,1,wB fI (MB bs),SA,nb⟩,R,⟨0,48,3,[[.c (.val (.bool (eB own).minus)),.c (nr (eB own).size),.c (nr (eB own).den)]],SA,SA⟩,⟨zz.2.2.1,48,3,wB fR zz.2.1,SA,zz.2.2.2⟩]⟩) (fun (zz:Nat × (List RR) × Nat × Bool)=>zz.1 <= bs.length /\ zz.2.1 = JO S C own bs zz.1 /\ zz.2.2.2 = !zz.2.1.isEmpty) (fun (zz:Nat × (List RR) × Nat × Bool)=>bs.length - zz.1) (0,[],0,TA) ?hI1 (TB.head (show _ <= 8 from Nat.le_of_ble_eq_true rfl) [SA,SA,TA,TA,TA,SA,TA,SA,TA,TA,TA,TA,TA,TA,TA,SA,SA,SA] ?hT1 ?hH1) ?hB1
 case hT1 | hH1=>first | (simp (disch:=omega) only [pD,IB,lB,XA,clean1,JB,reduceIte,iS,iA,iN,CE,h0,h1,h2,hR,hbl];done) | rfl
 ·dsimp only;exact ⟨fN _,rfl,rfl⟩
 rintro ⟨i,out,u,nn⟩ ⟨hi,ho,hnn⟩
 dsimp only at hi ho hnn
 by_cases him:i = bs.length
 ·refine uD.fgt ?_ (TB.closeO (i:=7) rfl rfl (by decide) hnn)
  rw [oC]
  simp only [lA,mA,YH,EB,nB,nA,IA,if_true,if_false,reduceIte]
  refine uD.fgt ?hA2 (TB.head (t':=(aT v :: J4 (.junk :: .junk :: aV (aC out) :: J8 (aI bs.length :: aI i :: L8 (J8 (J4 (.junk :: []))))))) (h':=[P0,P1,P2,⟨v,113,9,[[.c (.val (.int .i64 (S.n:Int))),.c (.val (.int .i64 (S.m:Int))),.c (jB 1 fM (TD S)),.c (vr (aQ S.b)),.c mn,.own 4 vb,.c (.val (.int .i64 st)),.c (.val (.int .i64 bu)),.c wk]],SA,SA⟩,⟨vb,3,1,wB fI (MB bs),SA,nb⟩,R]) (show _ <= 6 from Nat.le_of_ble_eq_true rfl) [SA,TA,TA,TA,TA,TA,TA,SA,TA,TA,TA,TA,TA,TA,TA,TA,SA,SA] ?hT2 ?hH2)
  case hT2 | hH2=>first | (simp (disch:=omega) only [pD,IB,lB,XA,clean1,JB,reduceIte,iS,iA,iN,h0,h1,h2,hR];done) | rfl
  rw [him] at ho
  subst ho
  repeat (first | (with_reducible first | refine W8 ?_ | refine VA rfl ?_) | ((with_reducible refine X8 fun K hK=>?_);simp (disch:=first | omega | simp only [sB];omega) only [qB,reduceIte,reduceCtorEq,iT,nA,nS,nM,iA,iS,iM,iN,fU];subst hK) | (apply bD (hsq) rfl rfl) | refine KB (hso) rfl rfl rfl ?_)
  exact ⟨rfl,rfl⟩
 ·have hlt:i < bs.length:=by omega
  have hlt2:i < (MB bs).length:=by omega
  have hg:=sH hlt2
  have hol:out.length = i:=by rw [ho];unfold JO;rw [eA,List.length_range]
  have hkb:=hb.2 i hlt
  generalize hk:bs.getD i 0 = k at hg hkb
  have hnx:out ++ [cR S C own k] = JO S C own bs (i + 1):=by rw [cRTo_succ,<- ho,hk]
  by_cases hge:S.n <= k
  ·have hck:cR S C own k = eB own:=if_pos hge
   repeat (first | (with_reducible first | refine W8 ?_ | refine VA rfl ?_) | ((with_reducible refine X8 fun K hK=>?_);simp (disch:=first | omega | simp only [sB];omega) only [qB,reduceIte,reduceCtorEq,iT,nA,nS,nM,iA,iS,iM,iN,fU,hg,fI];subst hK))
   refine ⟨(i + 1,out ++ [eB own],u + 1,SA),?hI3,?hM3,TB.head (show _ <= 8 from Nat.le_of_ble_eq_true rfl) [SA,SA,TA,TA,TA,SA,TA,SA,TA,TA,TA,TA,TA,TA,TA,SA,SA,SA] ?hT3 ?hH3⟩
   case hT3 | hH3=>first | (simp (disch:=omega) only [pD,IB,lB,XA,clean1,JB,reduceIte,iS,iA,iN,h0,h1,h2,hR,YB,hbl,kA,KA,LA];done) | rfl
   ·rw [hck] at hnx;dsimp only;refine ⟨by omega,hnx,by cases out <;> rfl⟩
   ·dsimp only;omega
  ·have hck:cR S C own k = dF C k:=if_neg hge
   have hk3:k < (UA C).length:=by omega
   rw [fE hk3] at hck
   repeat (first | (with_reducible first | refine W8 ?_ | refine VA rfl ?_) | ((with_reducible refine X8 fun K hK=>?_);simp (disch:=first | omega | simp only [sB];omega) only [qB,reduceIte,reduceCtorEq,iT,nA,nS,nM,iA,iS,iM,iN,fU,hg,fI,fR];subst hK))
   refine ⟨(i + 1,out ++ [(UA C)[k]],u + 1,SA),?hI4,?hM4,TB.head (show _ <= 8 from Nat.le_of_ble_eq_true rfl) [SA,SA,TA,TA,TA,SA,TA,SA,TA,TA,TA,TA,TA,TA,TA,SA,SA,SA] ?hT4 ?hH4⟩
   case hT4 | hH4=>first | (simp (disch:=omega) only [pD,IB,lB,XA,clean1,JB,reduceIte,iS,iA,iN,h0,h1,h2,hR,YB,hbl,kA,KA,LA];done) | rfl
   ·rw [hck] at hnx;dsimp only;refine ⟨by omega,hnx,by cases out <;> rfl⟩
   ·dsimp only;omega
def optI:Option Nat -> Int
 | none=>-1
 | some k=>k
theorem dot_rowV (a b:List Rat):aL (aQ a) (aQ b) = LH a b:=by
 rw [c7]
 unfold dP LH
 rw [nD,nD]
 exact dB (fun i _=>by rw [wV,wV])
def entB (S:SD) (costs y:List Rat) (k:Nat):Bool:=decide (costs.getD k 0 < LH y (S.cols.getD k []))
theorem enter_is (S:SD) (costs y:List Rat):JH S costs y = (List.range S.n).find? (entB S costs y):=rfl
theorem sgn_low' (q:Rat):(dE (eB q).top <= 0) ↔ q <= 0:=by
 have h:=xM (n:=0) (m:=(eB q).top) (d:=1) (e:=(eB q).bot) (by decide) (eB q).bot_ne
 rw [show mkRat 0 1 = (0:Rat) from rfl] at h
 have e:mkRat (eB q).top (eB q).bot = q:=rawQ_val q
 rw [e] at h
 have h2:q <= 0 ↔ ¬ 0 < q:=Rat.not_lt.symm
 rw [h2,h]
 unfold dE
 split
 ·omega
 ·split <;> omega
theorem NS {a b:VV} {n L K:Nat} (ha:vC a n L) (hb:vC b n K) (hL:1 <= L) (hK:1 <= K):SB (aL a b) (n * (L + K + 1) + 1):=by
 have key:∀ k,SB (VQ a b k) (k * (L + K + 1) + 1):=fun k=>by
  induction k with
  | zero=>rw [Nat.zero_mul];exact HC _ (by omega)
  | succ k ih=>rw [UQ,Nat.succ_mul];exact (ih.add1 (OS (ha.at k) (hb.at k) hL hK)).mono (by omega)
 have h1:=ha.1
 exact (key (dP a b)).mono (Nat.add_le_add_right (Nat.mul_le_mul_right _ (by show min _ _ <= n;omega)) _)
theorem fits_inv {q:Rat} {L:Nat} (h:SB q L):SB q⁻¹ L:=by
 by_cases h0:q = 0
 ·rw [h0,Rat.inv_zero,<- h0];exact h
 ·have hn:q.num ≠ 0:=fun e=>h0 (Rat.num_eq_zero.1 e)
  refine ⟨?_,?_⟩
  ·rw [Rat.num_inv,Int.natAbs_mul,Int.natAbs_sign_of_ne_zero hn,Nat.one_mul,Int.natAbs_natCast];exact h.2
  ·rw [Rat.den_inv,if_neg hn];exact h.1
abbrev c110_k1:CC:=(.seq (.reg [(mI 6 (-1))]) .ret)
abbrev c110_b1:CC:=(.seq (.reg [(bB 15 .lss 14 13)]) (.seq (.cond (tP 15) .skip (.exit 0)) (.seq (.block 1 (.seq (.reg [(mV 16 14),(xA 17 1 12 14),(lF 18 1 17),(mV 7 16),(mV 8 18)]) (.seq (.reg [(mV 19 1),(mV 20 7),(xA 21 3 19 20),(lT 22 3 21),(mV 23 2),(mV 24 8),(oD 25 (.callf (.func 29) [(tP 23),(tP 24)])),(oD 26 (.callf (.func 28) [(tP 22),(tP 25)])),(bC 27 .lss 26 0)]) (.cond (tP 27) (.seq (.reg [(mV 28 7),(mV 6 28)]) .ret) .skip)))) (.reg [(bC 29 .add 14 1),(mV 14 29)]))))
abbrev c110:CC:=(.seq (.reg [(mI 6 0)]) (.seq (.seq (.reg [(mV 9 0),(fA 10 0 9),(fA 11 2 10),(lF 12 1 11),(nL 13 12),(mI 14 0)]) (.block 0 (.loop c110_b1))) c110_k1))
theorem cc110:ZA Tryz.prog [] (Tryz.f110.body.getD .skip) = PA c110:=by kernel_rfl
theorem body110:Tryz.f110.body = PA (Tryz.f110.body.getD .skip):=rfl
theorem enter_P (S:SD) (L K:Nat) (hS:SFits S L) (C:VV) (y:List Rat) (hcl:(UA C).length = S.n) (hcf:∀ r ∈ UA C,vD r L) (hyl:y.length = S.m) (hyf:∀ q ∈ y,SB q K) (hK:1 <= K) (hKL:S.m * (K + L + 1) <= 8989000) (hK2:K <= 7000000) (mn bc:CV) (st bu:Int) (wk:CV) :
  YA Tryz.prog 110 [aTc S mn bc st bu wk,aV C,aV (aQ y)] (.ret (aI (optI (JH S (LC C) y)))):=by
 have hn:=hS.nb
 have hm:=hS.mb
 have l1:=hS.l1
 have l2:=hS.l2
 have hcols:(UA (TD S)).length = S.n:=by rw [rH,eA];exact hS.cl
 rw [enter_is]
 refine WA (rs:=[(RV.tmp 6)]) Tryz.func110 (fun a w=>Tryz.call110 a w) body110 cc110 (by kernel_rfl) ?_
 rw [Tryz.ntmps110]
 simp only [pC,nA,nS]
 repeat (first | (with_reducible first | refine W8 ?_ | refine VA rfl ?_) | ((with_reducible refine X8 fun K hK=>?_);simp (disch:=first | omega | simp only [sB];omega) only [qB,reduceIte,reduceCtorEq,iT,nA,nS,nM,iA,iS,iM,iN,fU];subst hK))
 refine xB (fun (zz:Nat)=>⟨(aTc S mn bc st bu wk :: aV C :: aV (aQ y) :: J8 (.junk :: .one (.c (jB 1 fM (TD S))) :: aI S.n :: aI zz :: J8 (J4 (.junk :: .junk :: .junk :: [])))),[]⟩) (fun (zz:Nat)=>zz <= S.n /\ ∀ j,j < zz -> entB S (LC C) y j = TA) (fun (zz:Nat)=>S.n - zz) (0) ?hI1 (TB.head (EA _) [SA,SA,SA,TA,TA,TA,TA,TA,TA,TA,TA,TA,SA,SA,SA] ?hT1 ?hH1) ?hB1
 case hT1 | hH1=>first | (simp (disch:=omega) only [pD,IB,lB,XA,clean1,uB,reduceIte,iS,iA,iN,hcols];done) | rfl
 ·exact ⟨fN _,fun j hj=>by omega⟩
 rintro i ⟨hi,hs⟩
 by_cases him:i = S.n
 ·have e:(List.range S.n).find? (entB S (LC C) y) = QA:=by
   rw [List.find?_eq_none]
   intro j hj
   rw [hs j (by rw [him];exact zA.1 hj)]
   simp
  rw [e]
  repeat (first | (with_reducible first | refine W8 ?_ | refine VA rfl ?_) | ((with_reducible refine X8 fun K hK=>?_);simp (disch:=first | omega | simp only [sB];omega) only [qB,reduceIte,reduceCtorEq,iT,nA,nS,nM,iA,iS,iM,iN,fU];subst hK))
  exact ⟨_,rfl,rfl⟩
 ·have hlt:i < S.n:=by omega
  have hk2:i < (UA (TD S)).length:=by omega
  have hk3:i < (UA C).length:=by omega
  have hck:=KM hk2
  have hcv:(LC C).getD i 0 = (UA C)[i].val:=by rw [LO];unfold jE;rw [fE hk3]
  have hcol:=hS.cm i hlt
  have hci:i < S.cols.length:=by have:=hS.cl;omega
  have hdot:=dot_W (aQ y) (aQ (S.cols.getD i [])) S.m K L (nE (by omega) hyf) (nE (by omega) (fun q hq=>by
   rw [bA,aA hci] at hq
   exact hS.colf _ (gA hci) q hq)) (by omega) hK l1 (by omega) (by omega) (by omega) (by omega)
  have hdf:=NS (a:=aQ y) (b:=aQ (S.cols.getD i [])) (n:=S.m) (L:=K) (K:=L) (nE (by omega) hyf) (nE (by omega) (fun q hq=>by
   rw [bA,aA hci] at hq
   exact hS.colf _ (gA hci) q hq)) hK l1
  rw [dot_rowV] at hdot hdf
  have hcm:=BL (UA C)[i] (eB (LH y (S.cols.getD i []))) ((hcf _ (gA hk3)).mono (by omega)) (QB (hdf.mono (by omega)))
  rw [rawQ_val] at hcm
  have hlt2:(LM (UA C)[i].val (LH y (S.cols.getD i [])) < 0) ↔ entB S (LC C) y i = SA:=by
   rw [KW];unfold entB;rw [decide_eq_true_eq,hcv]
  generalize LM (UA C)[i].val (LH y (S.cols.getD i [])) = z at hcm hlt2
  by_cases hz:z < 0
  ·have e:(List.range S.n).find? (entB S (LC C) y) = PA i:=by
    rw [List.find?_range_eq_some]
    exact ⟨hlt2.1 hz,zA.2 hlt,fun j hj=>by rw [hs j hj];rfl⟩
   rw [e]
   repeat (first | (with_reducible first | refine W8 ?_ | refine VA rfl ?_) | ((with_reducible refine X8 fun K hK=>?_);simp (disch:=first | omega | simp only [sB];omega) only [qB,reduceIte,reduceCtorEq,iT,nA,nS,nM,iA,iS,iM,iN,fU,fM,fR,hck];subst hK) | refine KB (hdot) rfl rfl rfl ?_ | refine KB (hcm) rfl rfl rfl ?_)
   exact ⟨_,rfl,rfl⟩
  ·have hf:entB S (LC C) y i = TA:=by
    cases he:entB S (LC C) y i with
    | false=>rfl
    | true=>exact absurd (hlt2.2 he) hz
   repeat (first | (with_reducible first | refine W8 ?_ | refine VA rfl ?_) | ((with_reducible refine X8 fun K hK=>?_);simp (disch:=first | omega | simp only [sB];omega) only [qB,reduceIte,reduceCtorEq,iT,nA,nS,nM,iA,iS,iM,iN,fU,fM,fR,hck];subst hK) | refine KB (hdot) rfl rfl rfl ?_ | refine KB (hcm) rfl rfl rfl ?_)
   refine ⟨(i + 1),?hI2,?hM2,TB.headA (EA _) [SA,SA,SA,TA,TA,TA,TA,TA,TA,TA,TA,TA,SA,SA,SA]⟩
   ·refine ⟨hlt,fun j hj=>?_⟩
    by_cases e:j = i
    ·rw [e];exact hf
    ·exact hs j (by omega)
   ·show S.n - (i + 1) < S.n - i;omega
def lvSt (o:Option (Nat × Rat)):Int × RR:=match o with
 | none=>(-1,zR)
 | some (a,q)=>(a,eB q)
theorem div_inv (a b:Rat):a / b = a * b⁻¹:=Rat.div_def a b
abbrev c111_k1:CC:=(.seq (.reg [(mV 68 5),(mV 4 68)]) .ret)
abbrev c111_b1:CC:=(.seq (.reg [(bB 18 .lss 17 16)]) (.seq (.cond (tP 18) .skip (.exit 0)) (.seq (.block 1 (.seq (.reg [(mV 19 17),(xA 20 3 15 17),(lT 21 3 20),(oD 8 (.new 48 [(.bool TA),(.slice QA 0 0),(.slice QA 0 0)])),(mV 7 19),(sT 3 8 21)]) (.seq (.seq (.reg [(mV 22 1),(mV 23 7),(xA 24 3 22 23),(lT 25 3 24),(oD 26 (.callf (.func 27) [(tP 25)])),(bC 27 .leq 26 0)]) (.cond (tP 27) (.exit 1) .skip)) (.seq (.regn SA [(lT 29 3 8),(mV 30 1),(mV 31 7),(xA 32 3 30 31),(lT 33 3 32),(oD 34 (.callf (.func 137) [(tP 29),(tP 33)])),(mV 28 34),(eX 35 28 0),(eX 36 28 1),(oD 9 (.fill 48 [(.bool TA),(.slice QA 0 0),(.slice QA 0 0)])),(sT 3 9 35),(mV 10 36)]) (.seq (.reg [(mI 11 (-1))]) (.seq (.seq (.reg [(mV 37 5),(bC 38 .geq 37 0)]) (.cond (tP 38) (.reg [(lT 39 3 9),(lT 40 3 6),(oD 41 (.callf (.func 28) [(tP 39),(tP 40)])),(mV 11 41)]) .skip)) (.seq (.reg [(mV 42 11),(bC 43 .lss 42 0),(mV 44 43),(gM 45 44 TA 11),(oG 46 44 TA (.bin .eql (tP 45) (.const (.int .i64 (0))))),(gM 47 44 TA 46),(gM 48 47 SA 0),(oG 49 47 SA (.faddr 0 (tP 48))),(oG 50 47 SA (.faddr 5 (tP 49))),(oG 51 47 SA (.load 1 TA (tP 50))),(gM 52 47 SA 7),(oG 53 47 SA (.iaddr 1 QA (tP 51) (tP 52))),(oG 54 47 SA (.load 1 TA (tP 53))),(gM 55 47 SA 0),(oG 56 47 SA (.faddr 0 (tP 55))),(oG 57 47 SA (.faddr 5 (tP 56))),(oG 58 47 SA (.load 1 TA (tP 57))),(gM 59 47 SA 5),(oG 60 47 SA (.iaddr 1 QA (tP 58) (tP 59))),(oG 61 47 SA (.load 1 TA (tP 60))),(oG 62 47 SA (.bin .lss (tP 54) (tP 61))),(oG 63 44 TA (.pick (tP 47) (tP 62) (.const (.bool TA)))),(pT 64 44 63)]) (.cond (tP 64) (.reg [(mV 65 7),(lT 66 3 9),(mV 5 65),(sT 3 6 66)]) .skip)))))))) (.reg [(bC 67 .add 17 1),(mV 17 67)]))))
abbrev c111:CC:=(.seq (.reg [(mI 4 0)]) (.seq (.reg [(mI 5 (-1))]) (.seq (.reg [(oD 6 (.new 48 [(.bool TA),(.slice QA 0 0),(.slice QA 0 0)]))]) (.seq (.seq (.reg [(mV 12 0),(fA 13 0 12),(fA 14 8 13),(lF 15 1 14),(nL 16 15),(mI 17 0)]) (.block 0 (.loop c111_b1))) c111_k1))))
theorem cc111:ZA Tryz.prog [] (Tryz.f111.body.getD .skip) = PA c111:=by kernel_rfl
theorem body111:Tryz.f111.body = PA (Tryz.f111.body.getD .skip):=rfl
theorem leave_P (S:SD) (K:Nat) (x d:List Rat) (bs:List Nat) (hxl:x.length <= 1000) (hdl:d.length = x.length) (hbl:bs.length = x.length) (hb:∀ i,i < bs.length -> bs.getD i 0 <= 1000000) (hxf:∀ q ∈ x,SB q K) (hdf:∀ q ∈ d,SB q K) (hK:K <= 4000000) (mn:CV) (nb:Bool) (hnb:nb = !(MB bs).isEmpty) (st bu:Int) :
  YA Tryz.prog 111 [aTc S mn (jB 1 fI (aC (MB bs))) st bu (vr (aQ x)),aV (aQ d)] (.ret (aI (optI (oK x d bs)))):=by
 have hrx:=nD x
 have hrd:=nD d
 have hib:=eC bs
 have hob:UA (aC (MB bs)) = MB bs:=WB _
 have hol:(UA (aC (MB bs))).length = bs.length:=by rw [hob,hib]
 have hend:optI (oK x d bs) = (lvSt (uE x d bs x.length)).1:=by
  unfold oK
  cases uE x d bs x.length with
  | none=>rfl
  | some p=>rfl
 rw [hend]
 refine WA (rs:=[(RV.tmp 4)]) Tryz.func111 (fun a w=>Tryz.call111 a w) body111 cc111 (by kernel_rfl) ?_
 rw [Tryz.ntmps111]
 simp only [pC,nA,nS]
 repeat (first | (with_reducible first | refine W8 ?_ | refine VA rfl ?_) | ((with_reducible refine X8 fun K hK=>?_);simp (disch:=first | omega | simp only [sB];omega) only [qB,reduceIte,reduceCtorEq,iT,nA,nS,nM,iA,iS,iM,iN,fU];subst hK))
 refine xB (fun (zz:Nat × Int × RR)=>⟨(aTc S mn (jB 1 fI (aC (MB bs))) st bu (vr (aQ x)) :: aV (aQ d) :: .junk :: .junk :: .junk :: aI zz.2.1 :: .one (.ptr 0 0 0 0) :: J8 (aV (aQ x) :: aI x.length :: aI zz.1 :: K8 (L8 (.junk :: .junk :: .junk :: [])))),[⟨0,48,3,[[.c (.val (.bool zz.2.2.minus)),.c (nr zz.2.2.size),.c (nr zz.2.2.den)]],SA,SA⟩]⟩) (fun (zz:Nat × Int × RR)=>zz.1 <= x.length /\ (zz.2.1,zz.2.2) = lvSt (uE x d bs zz.1)) (fun (zz:Nat × Int × RR)=>x.length - zz.1) (0,-1,zR) ?hI3 (TB.head (fN 1) [SA,SA,TA,TA,TA,SA,SA,TA,TA,TA,TA,TA,TA,TA,TA,SA,SA,SA] ?hT3 ?hH3) ?hB3
 case hT3 | hH3=>first | (simp (disch:=omega) only [pD,IB,lB,XA,clean1,uB,reduceIte,iS,iA,iN,hrx];done) | rfl
 ·dsimp only;exact ⟨fN _,rfl⟩
 rintro ⟨i,w0,q⟩ ⟨hi,hs⟩
 dsimp only at hi hs
 by_cases him:i = x.length
 ·rw [him] at hs
  rw [<- hs]
  repeat (first | (with_reducible first | refine W8 ?_ | refine VA rfl ?_) | ((with_reducible refine X8 fun K hK=>?_);simp (disch:=first | omega | simp only [sB];omega) only [qB,reduceIte,reduceCtorEq,iT,nA,nS,nM,iA,iS,iM,iN,fU];subst hK))
  exact ⟨_,rfl,rfl⟩
 ·have hlt:i < x.length:=by omega
  have hk1:i < (UA (aQ x)).length:=by omega
  have hk2:i < (UA (aQ d)).length:=by omega
  have hx1:=IK hk1
  have hd1:=IK hk2
  have fd:SB (d.getD i 0) K:=hdf _ (by rw [bA,aA (by omega)];exact gA _)
  have fx:SB (x.getD i 0) K:=hxf _ (by rw [bA,aA (by omega)];exact gA _)
  have hsg:=BG (eB (d.getD i 0)) (QB (fd.mono (by omega)))
  have hsl:=sgn_low' (d.getD i 0)
  generalize dE (eB (d.getD i 0)).top = z at hsg hsl
  by_cases hz:z <= 0
  ·have e:uE x d bs (i + 1) = uE x d bs i:=if_pos (hsl.1 hz)
   repeat (first | (with_reducible first | refine W8 ?_ | refine VA rfl ?_) | ((with_reducible refine X8 fun K hK=>?_);simp (disch:=first | omega | simp only [sB];omega) only [qB,reduceIte,reduceCtorEq,iT,nA,nS,nM,iA,iS,iM,iN,fU,fR,hx1,hd1];subst hK) | refine KB (hsg) rfl rfl rfl ?_)
   refine ⟨(i + 1,w0,q),?hI4,?hM4,TB.headA (fN 1) [SA,SA,TA,TA,TA,SA,SA,TA,TA,TA,TA,TA,TA,TA,TA,SA,SA,SA]⟩
   ·dsimp only;rw [e];exact ⟨hlt,hs⟩
   ·dsimp only;omega
  ·have hd0:¬ d.getD i 0 <= 0:=fun h=>hz (hsl.2 h)
   have hne:(eB (d.getD i 0)).val ≠ 0:=fun h=>hd0 (by rw [rawQ_val] at h;rw [h];exact Rat.le_refl)
   have hdv:=rdiv_C (eB (x.getD i 0)) (eB (d.getD i 0)) (QB (fx.mono (by omega))) (QB (fd.mono (by omega))) hne
   rw [rawQ_val,rawQ_val,div_inv] at hdv
   have fq:SB (x.getD i 0 * (d.getD i 0)⁻¹) (K + K):=fx.mul (fits_inv fd)
   cases hlv:uE x d bs i with
   | none =>
    rw [hlv] at hs
    obtain ⟨rfl,rfl⟩:w0 = -1 /\ q = zR:=by injection hs with h1 h2;exact ⟨h1,h2⟩
    have e:uE x d bs (i + 1) = PA (i,x.getD i 0 * (d.getD i 0)⁻¹):=by
     show (if d.getD i 0 <= 0 then _ else _) = _
     rw [if_neg hd0,hlv]
    repeat (first | (with_reducible first | refine W8 ?_ | refine VA rfl ?_) | ((with_reducible refine X8 fun K hK=>?_);simp (disch:=first | omega | simp only [sB];omega) only [qB,reduceIte,reduceCtorEq,iT,nA,nS,nM,iA,iS,iM,iN,fU,fR,hx1,hd1];subst hK) | refine KB (hsg) rfl rfl rfl ?_ | refine KB (hdv) rfl rfl rfl ?_)
    refine ⟨(i + 1,(i:Int),eB (x.getD i 0 * (d.getD i 0)⁻¹)),?hI5,?hM5,TB.headA (fN 1) [SA,SA,TA,TA,TA,SA,SA,TA,TA,TA,TA,TA,TA,TA,TA,SA,SA,SA]⟩
    ·dsimp only;rw [e];exact ⟨hlt,rfl⟩
    ·dsimp only;omega
   | some p =>
    obtain ⟨a,qq⟩:=p
    rw [hlv] at hs
    obtain ⟨rfl,rfl⟩:w0 = (a:Int) /\ q = eB qq:=by injection hs with h1 h2;exact ⟨h1,h2⟩
    obtain ⟨g1,g2,g3,_⟩:=yJ hlv
    have fdd:SB (d.getD a 0) K:=hdf _ (by rw [bA,aA (by omega)];exact gA _)
    have fxa:SB (x.getD a 0) K:=hxf _ (by rw [bA,aA (by omega)];exact gA _)
    have fqq:SB qq (K + K):=by rw [g3];exact fxa.mul (fits_inv fdd)
    have hcm:=BL (eB (x.getD i 0 * (d.getD i 0)⁻¹)) (eB qq) (QB (fq.mono (by omega))) (QB (fqq.mono (by omega)))
    rw [rawQ_val,rawQ_val] at hcm
    have hc1:=KW (x.getD i 0 * (d.getD i 0)⁻¹) qq
    have hc2:=cmpQ_pos (x.getD i 0 * (d.getD i 0)⁻¹) qq
    have hi1:i < (UA (aC (MB bs))).length:=by omega
    have ha1:a < (UA (aC (MB bs))).length:=by omega
    have hgi:(UA (aC (MB bs)))[i] = ((bs.getD i 0:Nat):Int):=by rw [List.getElem_of_eq hob];exact sH (by omega)
    have hga:(UA (aC (MB bs)))[a] = ((bs.getD a 0:Nat):Int):=by rw [List.getElem_of_eq hob];exact sH (by omega)
    have e:uE x d bs (i + 1) = if x.getD i 0 * (d.getD i 0)⁻¹ < qq \/ x.getD i 0 * (d.getD i 0)⁻¹ = qq /\ bs.getD i 0 < bs.getD a 0 then PA (i,x.getD i 0 * (d.getD i 0)⁻¹) else PA (a,qq):=by
     show (if d.getD i 0 <= 0 then _ else _) = _
     rw [if_neg hd0,hlv]
    generalize hw:x.getD i 0 * (d.getD i 0)⁻¹ = w at *
    generalize LM w qq = y at hcm hc1 hc2
    by_cases y1:y < 0
    ·rw [if_pos (.inl (hc1.1 y1))] at e
     repeat (first | (with_reducible first | refine W8 ?_ | refine VA rfl ?_) | ((with_reducible refine X8 fun K hK=>?_);simp (disch:=first | omega | simp only [sB];omega) only [qB,reduceIte,reduceCtorEq,iT,nA,nS,nM,iA,iS,iM,iN,fU,fR,fI,hx1,hd1,hgi,hga];subst hK) | refine KB (hsg) rfl rfl rfl ?_ | refine KB (hdv) rfl rfl rfl ?_ | refine KB (hcm) rfl rfl rfl ?_)
     refine ⟨(i + 1,(i:Int),eB w),?hI6,?hM6,TB.headA (fN 1) [SA,SA,TA,TA,TA,SA,SA,TA,TA,TA,TA,TA,TA,TA,TA,SA,SA,SA]⟩
     ·dsimp only;rw [e];exact ⟨hlt,rfl⟩
     ·dsimp only;omega
    ·by_cases y2:y = 0
     ·have hwq:w = qq:=by
       have h1:¬ w < qq:=fun h=>y1 (hc1.2 h)
       have h2:¬ qq < w:=fun h=>by have:=hc2.2 h;omega
       grind
      by_cases y3:bs.getD i 0 < bs.getD a 0
      ·rw [if_pos (.inr ⟨hwq,y3⟩)] at e
       repeat (first | (with_reducible first | refine W8 ?_ | refine VA rfl ?_) | ((with_reducible refine X8 fun K hK=>?_);simp (disch:=first | omega | simp only [sB];omega) only [qB,reduceIte,reduceCtorEq,iT,nA,nS,nM,iA,iS,iM,iN,fU,fR,fI,hx1,hd1,hgi,hga];subst hK) | refine KB (hsg) rfl rfl rfl ?_ | refine KB (hdv) rfl rfl rfl ?_ | refine KB (hcm) rfl rfl rfl ?_)
       refine ⟨(i + 1,(i:Int),eB w),?hI7,?hM7,TB.headA (fN 1) [SA,SA,TA,TA,TA,SA,SA,TA,TA,TA,TA,TA,TA,TA,TA,SA,SA,SA]⟩
       ·dsimp only;rw [e];exact ⟨hlt,rfl⟩
       ·dsimp only;omega
      ·rw [if_neg (fun h=>by rcases h with h | h;exact y1 (hc1.2 h);exact y3 h.2)] at e
       repeat (first | (with_reducible first | refine W8 ?_ | refine VA rfl ?_) | ((with_reducible refine X8 fun K hK=>?_);simp (disch:=first | omega | simp only [sB];omega) only [qB,reduceIte,reduceCtorEq,iT,nA,nS,nM,iA,iS,iM,iN,fU,fR,fI,hx1,hd1,hgi,hga];subst hK) | refine KB (hsg) rfl rfl rfl ?_ | refine KB (hdv) rfl rfl rfl ?_ | refine KB (hcm) rfl rfl rfl ?_)
       refine ⟨(i + 1,(a:Int),eB qq),?hI8,?hM8,TB.headA (fN 1) [SA,SA,TA,TA,TA,SA,SA,TA,TA,TA,TA,TA,TA,TA,TA,SA,SA,SA]⟩
       ·dsimp only;rw [e];exact ⟨hlt,rfl⟩
       ·dsimp only;omega
     ·rw [if_neg (fun h=>by
       rcases h with h | h
       ·exact y1 (hc1.2 h)
       ·refine y2 ?_
        have h1:¬ y < 0:=y1
        have h2:¬ 0 < y:=fun hp=>by have:=hc2.1 hp;rw [h.1] at this;exact absurd this (by grind)
        omega)] at e
      repeat (first | (with_reducible first | refine W8 ?_ | refine VA rfl ?_) | ((with_reducible refine X8 fun K hK=>?_);simp (disch:=first | omega | simp only [sB];omega) only [qB,reduceIte,reduceCtorEq,iT,nA,nS,nM,iA,iS,iM,iN,fU,fR,fI,hx1,hd1,hgi,hga];subst hK) | refine KB (hsg) rfl rfl rfl ?_ | refine KB (hdv) rfl rfl rfl ?_ | refine KB (hcm) rfl rfl rfl ?_)
      refine ⟨(i + 1,(a:Int),eB qq),?hI9,?hM9,TB.headA (fN 1) [SA,SA,TA,TA,TA,SA,SA,TA,TA,TA,TA,TA,TA,TA,TA,SA,SA,SA]⟩
      ·dsimp only;rw [e];exact ⟨hlt,rfl⟩
      ·dsimp only;omega
theorem xE {h:List Blk} {S:SD} {v vb:Nat} {nb live lb:Bool} {mn wk:CV} {st bu:Int} {bs:List Nat} (h3:h[3]? = PA ⟨v,113,9,[[.c (.val (.int .i64 (S.n:Int))),.c (.val (.int .i64 (S.m:Int))),.c (jB 1 fM (TD S)),.c (vr (aQ S.b)),.c mn,.own 4 vb,.c (.val (.int .i64 st)),.c (.val (.int .i64 bu)),.c wk]],live,SA⟩) (h4:h[4]? = PA ⟨vb,3,1,wB fI (MB bs),lb,nb⟩) (hn:nb = !(MB bs).isEmpty) :
  VB h 3 (aT v) = PA (aTc S mn (jB 1 fI (aC (MB bs))) st bu wk):=by
 have e1:=kH (n:=2) h4 (by decide) hn
 have e0:∀ x,XB h 3 (.c x) = PA x:=fun x=>rfl
 simp only [VB,yE,jC,h3,if_true,List.getElem?_cons_zero,List.drop_zero,List.mapM_cons,List.mapM_nil,e0,e1,Option.bind_eq_bind,Option.bind_some,Option.pure_def,Option.map_some]
theorem runL_fin {S:SD} {costs:List Rat} {own:Rat} {bs:List Nat} {k:Option Nat} {d:List Rat} (hs:mE S costs own bs = .fin k d) (rem:Nat):tC S costs own rem bs = ⟨TA,yL S costs own bs,k,d,bs,rem⟩:=by
 cases rem <;> unfold tC <;> rw [hs]
theorem runL_go0 {S:SD} {costs:List Rat} {own:Rat} {bs:List Nat} {k a:Nat} (hs:mE S costs own bs = .go k a):tC S costs own 0 bs = ⟨SA,[],PA k,[],bs,0⟩:=by
 unfold tC;rw [hs]
theorem runL_go {S:SD} {costs:List Rat} {own:Rat} {bs:List Nat} {k a:Nat} (hs:mE S costs own bs = .go k a) (rem:Nat):tC S costs own (rem + 1) bs = tC S costs own rem (bs.set a k):=by
 show (match mE S costs own bs with | .fin k d=>_ | .go k a=>_) = _
 rw [hs]
theorem MS (bs:List Nat) (a k:Nat):MB (bs.set a k) = (MB bs).set a (k:Int):=by unfold MB;rw [List.map_set]
theorem bsl_of {S:SD} {bs:List Nat} (h:BOk S bs):BsL S bs:=⟨h.len,fun j hj=>h.lt j (by rw [<- h.len];exact hj)⟩
abbrev c64_b1:CC:=(.block 1 (.seq (.reg [(mV 11 0),(mV 12 0),(mV 13 0),(fA 14 0 13),(fA 15 3 14),(lF 16 1 15),(oD 17 (.callf (.func 108) [(tP 12),(tP 16)])),(fA 18 0 11),(fA 19 8 18),(sT 1 19 17)]) (.seq (.reg [(mV 20 0),(mV 21 1),(lT 22 3 5),(oD 23 (.callf (.func 109) [(tP 20),(tP 21),(tP 22)])),(mV 6 23)]) (.seq (.reg [(mV 24 0),(mV 25 1),(mV 26 6),(oD 27 (.callf (.func 110) [(tP 24),(tP 25),(tP 26)])),(mV 7 27)]) (.seq (.seq (.reg [(mV 28 7),(bC 29 .lss 28 0)]) (.cond (tP 29) (.seq (.reg [(mV 30 6),(mV 31 7),(mV 6 30),(mV 7 31),(oD 8 (.mv nC)),(mI 9 0)]) .ret) .skip)) (.seq (.reg [(mV 32 0),(mV 33 0),(fA 34 0 33),(fA 35 2 34),(lF 36 1 35),(mV 37 7),(xA 38 1 36 37),(lF 39 1 38),(oD 40 (.callf (.func 108) [(tP 32),(tP 39)])),(mV 8 40)]) (.seq (.reg [(mV 41 0),(mV 42 8),(oD 43 (.callf (.func 111) [(tP 41),(tP 42)])),(mV 10 43)]) (.seq (.block 2 (.seq (.reg [(mV 45 10),(bC 46 .lss 45 0),(mV 44 46)]) (.cond (tP 44) (.seq (.reg [(mV 47 6),(mV 48 7),(mV 49 8),(mV 6 47),(mV 7 48),(mV 8 49),(mI 9 0)]) .ret) (.seq (.reg [(mV 51 0),(fA 52 0 51),(fA 53 6 52),(lF 54 1 53),(mV 55 0),(fA 56 0 55),(fA 57 7 56),(lF 58 1 57),(bB 59 .geq 54 58),(mV 50 59)]) (.cond (tP 50) (.seq (.reg [(mV 60 7),(oD 6 (.mv nC)),(mV 7 60),(oD 8 (.mv nC)),(mI 9 10)]) .ret) .skip))))) (.seq (.reg [(mV 61 0),(fA 62 0 61),(fA 63 5 62),(lF 64 1 63),(mV 65 10),(mV 66 7),(xA 67 1 64 65),(sT 1 67 66)]) (.reg [(mV 68 0),(fA 69 0 68),(fA 70 6 69),(lF 71 1 70),(bC 72 .add 71 1),(fA 73 0 68),(fA 74 6 73),(sT 1 74 72)]))))))))))
abbrev c64:CC:=(.seq (.reg [(oD 5 (.box 48 (tP 2))),(oD 6 (.mv nC)),(mI 7 0),(oD 8 (.mv nC)),(mI 9 0)]) (.block 0 (.loop c64_b1)))
theorem cc64:ZA Tryz.prog [1000108,1000109] (Tryz.f64.body.getD .skip) = PA c64:=by kernel_rfl
theorem body64:Tryz.f64.body = PA (Tryz.f64.body.getD .skip):=rfl
theorem run_O (S:SD) (L:Nat) (hS:SFits S L) (C:VV) (own:Rat) (hcl:(UA C).length = S.n) (hcf:∀ r ∈ UA C,vD r L) (hof:SB own L) (bu:Int) (hbu:bu <= 9223372036854775807) (rem:Nat) (hrem:(rem:Int) <= bu) (bs:List Nat) (hb:COk S bs) (v vb:Nat) (nb:Bool) (hnb:nb = !(MB bs).isEmpty) (mn:CV) (wk:CV) (P0 P1 P2 R:Blk) (h0:aK P0) (h1:aK P1) (h2:aK P2) (hR:aK R) (O:RO) (hO:tC S (LC C) own rem bs = O) :
  DE Tryz.prog 64 [aT v,aV C,aR (eB own)] [P0,P1,P2,tB S v mn (.own 4 vb) (bu - (rem:Int)) bu wk,⟨vb,3,1,wB fI (MB bs),SA,nb⟩,R]
   (.tup [aV (aQ O.y),aI (optI O.k),aV (aQ O.d),aI (if O.err then 10 else 0)])
   [P0,P1,P2,tB S v mn (.own 4 vb) (bu - (O.rem:Int)) bu (vr (aQ (xL S O.bs))),⟨vb,3,1,wB fI (MB O.bs),SA,nb⟩,R]:=by
 have hm:=hS.mb
 have hn:=hS.nb
 have l1:=hS.l1
 have l2:=hS.l2
 have l3:=hS.l3
 have l4:=hS.l4
 have hK1:1 <= 4 ^ S.m * (L + 1):=Nat.mul_pos (Nat.pow_pos (by decide)) (by omega)
 have hcols:(UA (TD S)).length = S.n:=by rw [rH,eA];exact hS.cl
 have q0:=h0
 have q1:=h1
 have q2:=h2
 have qR:=hR
 unfold aK at q0 q1 q2 qR
 unfold tB
 refine uF (rs:=[(RV.tmp 6),(RV.tmp 7),(RV.tmp 8),(RV.tmp 9)]) Tryz.func64 (fun a w=>Tryz.call64 a w) body64 cc64 (by kernel_rfl) ?_
 rw [Tryz.ntmps64]
 simp only [pC,nA,nS]
 repeat (first | (with_reducible first | refine W8 ?_ | refine VA rfl ?_) | ((with_reducible refine X8 fun K hK=>?_);simp (disch:=first | omega | simp only [sB];omega) only [qB,reduceIte,reduceCtorEq,iT,nA,nS,nM,iA,iS,iM,iN,fU];subst hK))
 refine uD.fgt ?_ (TB.closeP (i:=5) (cs:=fR (eB own)) rfl rfl)
 rw [oC]
 simp only [lA,mA,YH,EB,nB,nA,IA,if_true,if_false,reduceIte]
 refine uD.fgt ?hA1 (TB.head (t':=(aT v :: aV C :: .junk :: .junk :: .junk :: .one (.iptr (fR (eB own))) :: K8 (K8 (J4 (.junk :: []))))) (h':=[P0,P1,P2,⟨v,113,9,[[.c (.val (.int .i64 (S.n:Int))),.c (.val (.int .i64 (S.m:Int))),.c (jB 1 fM (TD S)),.c (vr (aQ S.b)),.c mn,.own 4 vb,.c (.val (.int .i64 (bu - (rem:Int)))),.c (.val (.int .i64 bu)),.c wk]],SA,SA⟩,⟨vb,3,1,wB fI (MB bs),SA,nb⟩,R]) (show _ <= 6 from Nat.le_of_ble_eq_true rfl) [SA,SA,TA,TA,TA,SA] ?hT1 ?hH1)
 case hT1 | hH1=>first | (simp (disch:=omega) only [pD,IB,lB,XA,clean1,JB,reduceIte,iS,iA,iN,q0,q1,q2,qR];done) | rfl
 refine xB (fun (zz:(List Nat) × Nat × CV)=>⟨(aT v :: aV C :: .junk :: .junk :: .junk :: .one (.iptr (fR (eB own))) :: K8 (K8 (J4 (.junk :: [])))),[P0,P1,P2,⟨v,113,9,[[.c (.val (.int .i64 (S.n:Int))),.c (.val (.int .i64 (S.m:Int))),.c (jB 1 fM (TD S)),.c (vr (aQ S.b)),.c mn,.own 4 vb,.c (.val (.int .i64 (bu - (zz.2.1:Int)))),.c (.val (.int .i64 bu)),.c zz.2.2]],SA,SA⟩,⟨vb,3,1,wB fI (MB zz.1),SA,nb⟩,R]⟩) (fun (zz:(List Nat) × Nat × CV)=>(zz.2.1:Int) <= bu /\ COk S zz.1 /\ nb = !(MB zz.1).isEmpty /\ tC S (LC C) own zz.2.1 zz.1 = O) (fun (zz:(List Nat) × Nat × CV)=>zz.2.1) (bs,rem,wk) ?hI2 (TB.head (show _ <= 6 from Nat.le_of_ble_eq_true rfl) [SA,SA,TA,TA,TA,SA] ?hT2 ?hH2) ?hB2
 case hT2 | hH2=>first | (simp (disch:=omega) only [pD,IB,lB,XA,clean1,JB,reduceIte,iS,iA,iN,q0,q1,q2,qR];done) | rfl
 ·dsimp only;exact ⟨hrem,hb,hnb,hO⟩
 rintro ⟨cs,rm,wz⟩ ⟨hrm,hbs,hnb',hO'⟩
 dsimp only at hrm hbs hnb' hO'
 have hB:=hbs.toBOk
 have hbl:=bsl_of hB
 have hbn:=hbl.1
 have hib:=eC cs
 have fx:∀ q ∈ xL S cs,SB q (4 ^ S.m * (L + 1)):=fun q hq=>wF (vH (LJ hS hB.len)) l1 (by exact hS.bl) hS.bf q hq
 have fy:∀ q ∈ yL S (LC C) own cs,SB q (4 ^ S.m * (L + 1)):=fun q hq=>wF (LJ hS hB.len) l1 (by rw [eA];exact hB.len) (fun q hq=>by
  obtain ⟨k,hk,rfl⟩:=yA.1 hq
  unfold zD
  split
  ·exact hof
  ·rename_i h
   have h':k < (LC C).length:=by rw [YL];omega
   rw [bA,aA h']
   exact CK (n:=(UA C).length) ⟨EA _,hcf⟩ l1 _ (gA _)) q hq
 have hs1:=yT S L hS cs hbl S.b hS.bl hS.bf v vb nb mn (bu - (rm:Int)) bu wz P0 P1 P2 R h0 h1 h2 hR
 change DE _ _ _ _ (aV (aQ (xL S cs))) _ at hs1
 have hp:=prices_O S L hS cs hbl C own hcl hcf hof v vb nb mn (bu - (rm:Int)) bu (vr (aQ (xL S cs))) P0 P1 P2 R h0 h1 h2 hR
 have he:=enter_P S L (4 ^ S.m * (L + 1)) hS C (yL S (LC C) own cs) hcl hcf (NN hS.toWf (LC C) own hB) fy hK1 l4 (by omega) mn (jB 1 fI (aC (MB cs))) (bu - (rm:Int)) bu (vr (aQ (xL S cs)))
 unfold tB at hs1 hp
 have hen:mE S (LC C) own cs = match JH S (LC C) (yL S (LC C) own cs) with
  | none=>.fin QA []
  | some k=>match oK (xL S cs) (dL S cs k) cs with
   | none=>.fin (PA k) (dL S cs k)
   | some a=>.go k a:=rfl
 have hesp:=fun k hk=>tG (k:=k) hS.toWf hB (costs:=LC C) (own:=own) hk
 generalize hy:yL S (LC C) own cs = y at hp he hen hesp
 cases hE:JH S (LC C) y with
 | none =>
  rw [hE] at he hen
  dsimp only at hen
  change YA _ _ _ (.ret (aI (-1))) at he
  have hOe:=(runL_fin hen rm).symm.trans hO'
  rw [hy] at hOe
  subst hOe
  repeat (first | (with_reducible first | refine W8 ?_ | refine VA rfl ?_) | ((with_reducible refine X8 fun K hK=>?_);simp (disch:=first | omega | simp only [sB];omega) only [qB,reduceIte,reduceCtorEq,iT,nA,nS,nM,iA,iS,iM,iN,fU];subst hK) | (apply bD (hs1) rfl rfl) | (apply bD (hp) rfl rfl) | (apply aD (he) rfl;(case hcl=>(simp only [oE,St.ev,yB,NE];(repeat (first | exact kB | (apply gB;(first | (refine CB rfl (by decide)) | (refine BB rfl (by decide) ?_;assumption) | rfl | exact (xE rfl rfl hnb')))));done));(case hf=>rfl)))
  exact ⟨rfl,rfl⟩
 | some k =>
  rw [hE] at he hen
  dsimp only at hen
  change YA _ _ _ (.ret (aI (k:Int))) at he
  have hkn:=(hesp k hE).1
  have hk2:k < (UA (TD S)).length:=by omega
  have hck:=KM hk2
  have hkc:k < S.cols.length:=by have:=hS.cl;omega
  have fcol:∀ q ∈ S.cols.getD k [],SB q L:=fun q hq=>by
   rw [bA,aA hkc] at hq
   exact hS.colf _ (gA hkc) q hq
  have fd:∀ q ∈ dL S cs k,SB q (4 ^ S.m * (L + 1)):=fun q hq=>wF (vH (LJ hS hB.len)) l1 (hS.cm k hkn) fcol q hq
  have hs2:=yT S L hS cs hbl (S.cols.getD k []) (hS.cm k hkn) fcol v vb nb mn (bu - (rm:Int)) bu (vr (aQ (xL S cs))) P0 P1 P2 R h0 h1 h2 hR
  change DE _ _ _ _ (aV (aQ (dL S cs k))) _ at hs2
  have hxl:=x_len hS.toWf hB
  have hdl:=d_len hS.toWf hB k
  have hl:=leave_P S (4 ^ S.m * (L + 1)) (xL S cs) (dL S cs k) cs (by omega) (by omega) (by omega) (fun i hi=>by have:=hbl.2 i hi;omega) fx fd (by omega) mn nb hnb' (bu - (rm:Int)) bu
  unfold tB at hs2
  cases hL:oK (xL S cs) (dL S cs k) cs with
  | none =>
   rw [hL] at hl hen
   dsimp only at hen
   change YA _ _ _ (.ret (aI (-1))) at hl
   have hOe:=(runL_fin hen rm).symm.trans hO'
   rw [hy] at hOe
   subst hOe
   repeat (first | (with_reducible first | refine W8 ?_ | refine VA rfl ?_) | ((with_reducible refine X8 fun K hK=>?_);simp (disch:=first | omega | simp only [sB];omega) only [qB,reduceIte,reduceCtorEq,iT,nA,nS,nM,iA,iS,iM,iN,fU,fM,hck];subst hK) | (apply bD (hs1) rfl rfl) | (apply bD (hp) rfl rfl) | (apply aD (he) rfl;(case hcl=>(simp only [oE,St.ev,yB,NE];(repeat (first | exact kB | (apply gB;(first | (refine CB rfl (by decide)) | (refine BB rfl (by decide) ?_;assumption) | rfl | exact (xE rfl rfl hnb')))));done));(case hf=>rfl)) | (apply bD (hs2) rfl rfl) | (apply aD (hl) rfl;(case hcl=>(simp only [oE,St.ev,yB,NE];(repeat (first | exact kB | (apply gB;(first | (refine CB rfl (by decide)) | (refine BB rfl (by decide) ?_;assumption) | rfl | exact (xE rfl rfl hnb')))));done));(case hf=>rfl)))
   exact ⟨rfl,rfl⟩
  | some a =>
   rw [hL] at hl hen
   dsimp only at hen
   change YA _ _ _ (.ret (aI (a:Int))) at hl
   have hnx:=hbs.next hS.toWf hen
   obtain ⟨ham,_⟩:=stepL_row hS.toWf hB hen
   have hsI:∀ b:Int,(wB fI (MB cs)).set a [Cell.c (.val (.int .i64 b))] = wB fI ((MB cs).set a b):=fun b=>SE (MB cs) a b
   cases rm with
   | zero =>
    have hOe:=(runL_go0 hen).symm.trans hO'
    subst hOe
    repeat (first | (with_reducible first | refine W8 ?_ | refine VA rfl ?_) | ((with_reducible refine X8 fun K hK=>?_);simp (disch:=first | omega | simp only [sB];omega) only [qB,reduceIte,reduceCtorEq,iT,nA,nS,nM,iA,iS,iM,iN,fU,fM,hck];subst hK) | (apply bD (hs1) rfl rfl) | (apply bD (hp) rfl rfl) | (apply aD (he) rfl;(case hcl=>(simp only [oE,St.ev,yB,NE];(repeat (first | exact kB | (apply gB;(first | (refine CB rfl (by decide)) | (refine BB rfl (by decide) ?_;assumption) | rfl | exact (xE rfl rfl hnb')))));done));(case hf=>rfl)) | (apply bD (hs2) rfl rfl) | (apply aD (hl) rfl;(case hcl=>(simp only [oE,St.ev,yB,NE];(repeat (first | exact kB | (apply gB;(first | (refine CB rfl (by decide)) | (refine BB rfl (by decide) ?_;assumption) | rfl | exact (xE rfl rfl hnb')))));done));(case hf=>rfl)))
    exact ⟨rfl,rfl⟩
   | succ rm =>
    rw [runL_go hen] at hO'
    have hst:(bu - ((rm + 1:Nat):Int)) + 1 = bu - (rm:Int):=by omega
    have hst2:bu - ((rm:Int) + 1) + 1 = bu - (rm:Int):=by omega
    have hsk:=MS cs a k
    repeat (first | (with_reducible first | refine W8 ?_ | refine VA rfl ?_) | ((with_reducible refine X8 fun K hK=>?_);simp (disch:=first | omega | simp only [sB];omega) only [qB,reduceIte,reduceCtorEq,iT,nA,nS,nM,iA,iS,iM,iN,fU,fM,hck,fI,hsI];subst hK) | (apply bD (hs1) rfl rfl) | (apply bD (hp) rfl rfl) | (apply aD (he) rfl;(case hcl=>(simp only [oE,St.ev,yB,NE];(repeat (first | exact kB | (apply gB;(first | (refine CB rfl (by decide)) | (refine BB rfl (by decide) ?_;assumption) | rfl | exact (xE rfl rfl hnb')))));done));(case hf=>rfl)) | (apply bD (hs2) rfl rfl) | (apply aD (hl) rfl;(case hcl=>(simp only [oE,St.ev,yB,NE];(repeat (first | exact kB | (apply gB;(first | (refine CB rfl (by decide)) | (refine BB rfl (by decide) ?_;assumption) | rfl | exact (xE rfl rfl hnb')))));done));(case hf=>rfl)))
    refine ⟨(cs.set a k,rm,vr (aQ (xL S cs))),?hI3,?hM3,TB.head (show _ <= 6 from Nat.le_of_ble_eq_true rfl) [SA,SA,TA,TA,TA,SA] ?hT3 ?hH3⟩
    case hT3 | hH3=>first | (simp (disch:=omega) only [pD,IB,lB,XA,clean1,JB,reduceIte,iS,iA,iN,q0,q1,q2,qR,hst,hst2,hsk];done) | rfl
    ·dsimp only
     refine ⟨by omega,hnx,?_,hO'⟩
     rw [hnb',hsk]
     cases MB cs <;> cases a <;> rfl
    ·dsimp only;omega
end Go.Proofs.YtncgbjhojbnecaaGreat
