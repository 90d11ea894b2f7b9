/- Walks of slices over ints: Contains, Clone; simplex: clear. -/
import Derived.Test.YtncgbjhojbnecaaGreatU11
import Derived.Test.YtncgbjhojbnecaaGreatU12
import Derived.Test.YtncgbjhojbnecaaGreatU13
set_option linter.unusedSimpArgs false
set_option linter.unusedVariables false
set_option linter.unnecessarySimpa false
set_option maxRecDepth 100000
set_option maxHeartbeats 4000000
open List renaming mem_range -> zA, getD_eq_getElem?_getD -> bA, getElem?_eq_getElem -> aA, getElem_mem -> gA, mem_map -> yA, length_map -> eA, length_append -> sA, cons_append -> rA, nil_append -> qA, set_cons_succ -> lA, set_cons_zero -> mA, replicate -> jA, length_nil -> pA, length_cons -> oA, isEmpty_cons -> kA, map_congr_left -> wA, map_map -> uA
open Option renaming some -> PA, none -> QA, getD_some -> DA
open Go.Am.Way renaming imp -> W8
open Go.Am.WayR renaming imp -> X8
open Bool renaming false -> TA, true -> SA, and_eq_true -> JA, false_eq_true -> IA, not_false -> LA, or_true -> KA
open Nat renaming le_refl -> EA, zero_le -> fN
namespace Go.Proofs.YtncgbjhojbnecaaGreat
open Go Go.Am Go.Proofs Go.RowKit Go.Off
open Nat renaming reduceAdd -> nA,reduceSub -> nS,reduceMul -> nM,reduceBEq -> nB
open Int renaming reduceToNat -> iT,reduceAdd -> iA,reduceSub -> iS,reduceMul -> iM,reduceNeg -> iN
def isI (l:List Int) (k:Int) (i:Nat):Bool:=decide (k = l.getD i 0)
theorem anyI_isI (l:List Int) (k:Int):jG (isI l k) l.length = l.contains k:=by
 rw [Bool.eq_iff_iff,List.contains_iff_mem]
 unfold jG
 rw [List.any_eq_true]
 constructor
 ·rintro ⟨i,hi,h⟩
  have hi':=zA.1 hi
  unfold isI at h
  rw [decide_eq_true_eq,bA,aA hi'] at h
  rw [h];exact gA hi'
 ·intro h
  obtain ⟨i,hi,e⟩:=List.mem_iff_getElem.1 h
  refine ⟨i,zA.2 hi,?_⟩
  unfold isI
  rw [decide_eq_true_eq,bA,aA hi]
  exact e.symm
abbrev c138_k1:CC:=(.seq (.reg [(mI 4 (-1))]) .ret)
abbrev c138_b1:CC:=(.seq (.reg [(bB 9 .lss 8 7)]) (.seq (.cond (tP 9) .skip (.exit 0)) (.seq (.block 1 (.seq (.reg [(mV 10 8),(mV 5 10)]) (.seq (.reg [(mV 11 1),(mV 12 0),(mV 13 5),(xA 14 1 12 13),(lF 15 1 14),(bB 16 .eql 11 15)]) (.cond (tP 16) (.seq (.reg [(mV 17 5),(mV 4 17)]) .ret) .skip)))) (.reg [(bC 18 .add 8 1),(mV 8 18)]))))
abbrev c138:CC:=(.seq (.reg [(mI 4 0)]) (.seq (.seq (.reg [(mV 6 0),(nL 7 6),(mI 8 0)]) (.block 0 (.loop c138_b1))) c138_k1))
theorem cc138:ZA Tryz.prog [] (Tryz.f138.body.getD .skip) = PA c138:=by kernel_rfl
theorem body138:Tryz.f138.body = PA (Tryz.f138.body.getD .skip):=rfl
theorem index_I (l:Option (List Int)) (k:Int) (hl:(UA l).length <= 1000000):YA Tryz.prog 138 [QL l,aI k] (.ret (aI (sN (isI (UA l) k) (UA l).length))):=by
 refine WA (rs:=[(RV.tmp 4)]) Tryz.func138 (fun a w=>Tryz.call138 a w) body138 cc138 (by kernel_rfl) ?_
 rw [Tryz.ntmps138]
 simp only [pC,nA,nS]
 repeat (first | (with_reducible first | refine W8 ?_ | refine VA rfl ?_) | ((with_reducible refine X8 fun K hK=>?_);simp (disch:=first | omega | simp only [sB];omega) only [qB,reduceIte,reduceCtorEq,iT,nA,nS,nM,iA,iS,iM,iN,fU];subst hK))
 refine xB (fun (zz:Nat)=>⟨(QL l :: aI k :: .junk :: .junk :: aI 0 :: .junk :: QL l :: aI (UA l).length :: aI zz :: J8 (.junk :: .junk :: [])),[]⟩) (fun (zz:Nat)=>zz <= (UA l).length /\ jG (isI (UA l) k) zz = TA) (fun (zz:Nat)=>(UA l).length - zz) (0) ?hI1 (TB.headP (EA _) [SA,SA,TA,TA,SA,TA,SA,SA,SA]) ?hB1
 ·exact ⟨fN _,rfl⟩
 rintro i ⟨hi,hs⟩
 by_cases him:i = (UA l).length
 ·repeat (first | (with_reducible first | refine W8 ?_ | refine VA rfl ?_) | ((with_reducible refine X8 fun K hK=>?_);simp (disch:=first | omega | simp only [sB];omega) only [qB,reduceIte,reduceCtorEq,iT,nA,nS,nM,iA,iS,iM,iN,fU];subst hK))
  rw [SI (by rw [<- him];exact hs)]
  exact ⟨_,rfl,rfl⟩
 ·have hlt:i < (UA l).length:=by omega
  have hb:isI (UA l) k i = decide (k = (UA l)[i]):=by unfold isI;rw [bA,aA hlt];rfl
  by_cases he:k = (UA l)[i]
  ·rw [decide_eq_true he] at hb
   repeat (first | (with_reducible first | refine W8 ?_ | refine VA rfl ?_) | ((with_reducible refine X8 fun K hK=>?_);simp (disch:=first | omega | simp only [sB];omega) only [qB,reduceIte,reduceCtorEq,iT,nA,nS,nM,iA,iS,iM,iN,fU,fI];subst hK))
   rw [QI hlt hs hb]
   exact ⟨_,rfl,rfl⟩
  ·rw [decide_eq_false he] at hb
   repeat (first | (with_reducible first | refine W8 ?_ | refine VA rfl ?_) | ((with_reducible refine X8 fun K hK=>?_);simp (disch:=first | omega | simp only [sB];omega) only [qB,reduceIte,reduceCtorEq,iT,nA,nS,nM,iA,iS,iM,iN,fU,fI];subst hK))
   refine ⟨(i + 1),?hI2,?hM2,TB.headP (EA _) [SA,SA,TA,TA,SA,TA,SA,SA,SA]⟩
   ·exact ⟨Nat.succ_le_of_lt hlt,by rw [UK,hs,hb];rfl⟩
   ·show (UA l).length - (i + 1) < (UA l).length - i;omega
abbrev c112:CC:=(.seq (.reg [(mB 4 TA)]) (.seq (.reg [(mV 5 0),(mV 6 1),(oD 7 (.callf (.func 138) [(tP 5),(tP 6)])),(bC 8 .geq 7 0),(mV 4 8)]) .ret))
theorem cc112:ZA Tryz.prog [] (Tryz.f112.body.getD .skip) = PA c112:=by kernel_rfl
theorem body112:Tryz.f112.body = PA (Tryz.f112.body.getD .skip):=rfl
theorem contains_I (l:Option (List Int)) (k:Int) (hl:(UA l).length <= 1000000):YA Tryz.prog 112 [QL l,aI k] (.ret (aB ((UA l).contains k))):=by
 have hx:=index_I l k hl
 rw [<- anyI_isI,<- HQ]
 generalize sN (isI (UA l) k) (UA l).length = z at *
 refine WA (rs:=[(RV.tmp 4)]) Tryz.func112 (fun a w=>Tryz.call112 a w) body112 cc112 (by kernel_rfl) ?_
 rw [Tryz.ntmps112]
 simp only [pC,nA,nS]
 repeat (first | (with_reducible first | refine W8 ?_ | refine VA rfl ?_) | ((with_reducible refine X8 fun K hK=>?_);simp (disch:=first | omega | simp only [sB];omega) only [qB,reduceIte,reduceCtorEq,iT,nA,nS,nM,iA,iS,iM,iN,fU];subst hK) | refine KB (hx) rfl rfl rfl ?_)
 exact ⟨_,rfl,rfl⟩
abbrev c36:CC:=(.seq (.reg [(oD 2 (.mv nC))]) (.seq (.seq (.reg [(mV 3 0),(oD 4 (.isnil TA TA (tP 3)))]) (.cond (tP 4) (.seq (.reg [(oD 2 (.mv nC))]) .ret) .skip)) (.seq (.reg [(oD 5 (.mkrow 3 1 [])),(mV 6 0),(oD 7 (.append 3 1 8 (tP 5) (tP 6))),(mV 2 7)]) .ret)))
theorem cc36:ZA Tryz.prog [] (Tryz.f36.body.getD .skip) = PA c36:=by kernel_rfl
theorem body36:Tryz.f36.body = PA (Tryz.f36.body.getD .skip):=rfl
theorem cloneI_nil:YA Tryz.prog 36 [QL QA] (.ret (QL QA)):=by
 refine WA (rs:=[(RV.tmp 2)]) Tryz.func36 (fun a w=>Tryz.call36 a w) body36 cc36 (by kernel_rfl) ?_
 rw [Tryz.ntmps36]
 simp only [pC,nA,nS]
 repeat (first | (with_reducible first | refine W8 ?_ | refine VA rfl ?_) | ((with_reducible refine X8 fun K hK=>?_);simp (disch:=first | omega | simp only [sB];omega) only [qB,reduceIte,reduceCtorEq,iT,nA,nS,nM,iA,iS,iM,iN,fU,Option.isNone];subst hK))
 exact ⟨_,rfl,rfl⟩
theorem cloneI_C (l:List Int) (hl:l.length <= 1000000):YA Tryz.prog 36 [QL (PA l)] (.fresh 3 1 (l.map fI) SA):=by
 refine WA (rs:=[(RV.tmp 2)]) Tryz.func36 (fun a w=>Tryz.call36 a w) body36 cc36 (by kernel_rfl) ?_
 rw [Tryz.ntmps36]
 simp only [pC,nA,nS]
 repeat (first | (with_reducible first | refine W8 ?_ | refine VA rfl ?_) | ((with_reducible refine X8 fun K hK=>?_);simp (disch:=first | omega | simp only [sB];omega) only [qB,reduceIte,reduceCtorEq,iT,nA,nS,nM,iA,iS,iM,iN,fU,Option.isNone];subst hK))
 exact ⟨_,rfl,JD.fresh_enc rfl⟩
theorem eR (l:Option (List Int)) (hl:(UA l).length <= 1000000):YA Tryz.prog 36 [QL l] (.ret (QL l)):=by
 cases l with
 | none=>exact cloneI_nil
 | some l=>exact (cloneI_C l hl).fresh_ret
theorem contains_N (bs:List Nat) (k:Nat):(MB bs).contains (k:Int) = bs.contains k:=by
 rw [Bool.eq_iff_iff,List.contains_iff_mem,List.contains_iff_mem]
 unfold MB
 rw [yA]
 exact ⟨fun ⟨a,h,e⟩=>by have:a = k:=by exact_mod_cast e
                        rw [<- this];exact h,fun h=>⟨k,h,rfl⟩⟩
def GO (S:SD) (bs:List Nat) (i k:Nat):Bool:=!bs.contains k && decide ((dL S bs k).getD i 0 ≠ 0)
theorem clearAt_is (S:SD) (bs:List Nat) (i:Nat):oI S bs i = if bs.getD i 0 < S.n then bs else match (List.range S.n).find? (GO S bs i) with
 | none=>bs
 | some k=>bs.set i k:=rfl
theorem sgn_nz (q:Rat):dE (eB q).top = 0 ↔ q = 0:=by rw [ZG,bM,rawQ_val]
abbrev c66_k1:CC:=(.reg [(bC 63 .add 9 1),(mV 9 63)])
abbrev c66_b1:CC:=(.seq (.reg [(bB 30 .lss 29 28)]) (.seq (.cond (tP 30) .skip (.exit 2)) (.seq (.block 3 (.seq (.reg [(mV 31 29),(mV 3 31)]) (.seq (.reg [(mV 32 0),(fA 33 0 32),(fA 34 5 33),(lF 35 1 34),(mV 36 3),(oD 37 (.callf (.func 112) [(tP 35),(tP 36)])),(uN 38 37),(mV 39 38),(gM 40 39 SA 0),(gM 41 39 SA 0),(oG 42 39 SA (.faddr 0 (tP 41))),(oG 43 39 SA (.faddr 2 (tP 42))),(oG 44 39 SA (.load 1 TA (tP 43))),(gM 45 39 SA 3),(oG 46 39 SA (.iaddr 1 QA (tP 44) (tP 45))),(oG 47 39 SA (.load 1 TA (tP 46))),(oG 48 39 SA (.callf (.func 108) [(tP 40),(tP 47)])),(gM 49 39 SA 2),(oG 50 39 SA (.iaddr 3 QA (tP 48) (tP 49))),(oG 51 39 SA (.load 3 SA (tP 50))),(oG 52 39 SA (.callf (.func 27) [(tP 51)])),(oG 53 39 SA (.bin .neq (tP 52) (.const (.int .i64 (0))))),(pF 54 39 53)]) (.cond (tP 54) (.seq (.reg [(mV 55 0),(fA 56 0 55),(fA 57 5 56),(lF 58 1 57),(mV 59 2),(mV 60 3),(xA 61 1 58 59),(sT 1 61 60)]) (.exit 1)) .skip)))) (.reg [(bC 62 .add 29 1),(mV 29 62)]))))
abbrev c66_b2:CC:=(.seq (.reg [(bB 10 .lss 9 8)]) (.seq (.cond (tP 10) .skip (.exit 0)) (.seq (.block 1 (.seq (.reg [(mV 11 9),(mV 2 11)]) (.seq (.seq (.reg [(mV 12 0),(fA 13 0 12),(fA 14 5 13),(lF 15 1 14),(mV 16 2),(xA 17 1 15 16),(lF 18 1 17),(mV 19 0),(fA 20 0 19),(fA 21 0 20),(lF 22 1 21),(bB 23 .lss 18 22)]) (.cond (tP 23) (.exit 1) .skip)) (.seq (.reg [(mV 24 0),(fA 25 0 24),(fA 26 2 25),(lF 27 1 26),(nL 28 27),(mI 29 0)]) (.block 2 (.loop c66_b1)))))) c66_k1)))
abbrev c66:CC:=(.scope (.seq .skip (.seq (.reg [(mV 4 0),(fA 5 0 4),(fA 6 5 5),(lF 7 1 6),(nL 8 7),(mI 9 0)]) (.block 0 (.loop c66_b2)))))
theorem cc66:ZA Tryz.prog [1000108] (Tryz.f66.body.getD .skip) = PA c66:=by kernel_rfl
theorem body66:Tryz.f66.body = PA (Tryz.f66.body.getD .skip):=rfl
theorem clear_O (S:SD) (L:Nat) (hS:SFits S L) (bs:List Nat) (hb:COk S bs) (hz:Zer S bs) (v vb:Nat) (nb:Bool) (hnb:nb = !(MB bs).isEmpty) (mn:CV) (st bu:Int) (wk:CV) (P0 P1 P2 R:Blk) (h0:aK P0) (h1:aK P1) (h2:aK P2) (hR:aK R) :
  DE Tryz.prog 66 [aT v] [P0,P1,P2,tB S v mn (.own 4 vb) st bu wk,⟨vb,3,1,wB fI (MB bs),SA,nb⟩,R] (.tup [])
   [P0,P1,P2,tB S v mn (.own 4 vb) st bu wk,⟨vb,3,1,wB fI (MB (iD S bs S.m)),SA,nb⟩,R]:=by
 have hm:=hS.mb
 have hn:=hS.nb
 have l1:=hS.l1
 have l2:=hS.l2
 have l3:=hS.l3
 have hcols:(UA (TD S)).length = S.n:=by rw [rH,eA];exact hS.cl
 have hspec:=vG hS.toWf hb hz
 have hlen:∀ i,i <= S.m -> (MB (iD S bs i)).length = S.m:=fun i hi=>by rw [eC];exact (hspec i hi).1.len
 have hnn:∀ i,i <= S.m -> nb = !(MB (iD S bs i)).isEmpty:=fun i hi=>by
  have e1:=hlen i hi
  have e2:=hlen 0 (fN _)
  rw [hnb]
  show (!(MB (iD S bs 0)).isEmpty) = _
  generalize MB (iD S bs i) = a at *
  generalize MB (iD S bs 0) = b at *
  cases a <;> cases b <;> first | rfl | (simp at e1 e2;omega)
 have q0:=h0
 have q1:=h1
 have q2:=h2
 have qR:=hR
 unfold aK at q0 q1 q2 qR
 unfold tB
 have hl0:(MB bs).length = S.m:=hlen 0 (fN _)
 refine uF (rs:=[]) Tryz.func66 (fun a w=>Tryz.call66 a w) body66 cc66 (by kernel_rfl) ?_
 rw [Tryz.ntmps66]
 simp only [pC,nA,nS]
 repeat (first | (with_reducible first | refine W8 ?_ | refine VA rfl ?_) | ((with_reducible refine X8 fun K hK=>?_);simp (disch:=first | omega | simp only [sB];omega) only [qB,reduceIte,reduceCtorEq,iT,nA,nS,nM,iA,iS,iM,iN,fU];subst hK))
 refine xB (fun (zz:Nat)=>⟨(aT v :: J4 (.junk :: .junk :: .junk :: aI S.m :: aI zz :: K8 (L8 (J4 (.junk :: .junk :: []))))),[P0,P1,P2,⟨v,113,9,[[.c (.val (.int .i64 (S.n:Int))),.c (.val (.int .i64 (S.m:Int))),.c (jB 1 fM (TD S)),.c (vr (aQ S.b)),.c mn,.own 4 vb,.c (.val (.int .i64 st)),.c (.val (.int .i64 bu)),.c wk]],SA,SA⟩,⟨vb,3,1,wB fI (MB (iD S bs zz)),SA,nb⟩,R]⟩) (fun (zz:Nat)=>zz <= S.m) (fun (zz:Nat)=>S.m - zz) (0) ?hI3 (TB.head (show _ <= 6 from Nat.le_of_ble_eq_true rfl) [SA,TA,TA,TA,TA,TA,TA,TA,SA,SA] ?hT3 ?hH3) ?hB3
 case hT3 | hH3=>first | (simp (disch:=omega) only [pD,IB,lB,XA,clean1,JB,reduceIte,iS,iA,iN,q0,q1,q2,qR,hl0,iD];done) | rfl
 ·exact fN _
 rintro i hi
 obtain ⟨hcs,hzs,_⟩:=hspec i hi
 by_cases him:i = S.m
 ·rw [him]
  repeat (first | (with_reducible first | refine W8 ?_ | refine VA rfl ?_) | ((with_reducible refine X8 fun K hK=>?_);simp (disch:=first | omega | simp only [sB];omega) only [qB,reduceIte,reduceCtorEq,iT,nA,nS,nM,iA,iS,iM,iN,fU];subst hK))
  exact ⟨rfl,rfl⟩
 have hlt:i < S.m:=by omega
 have hB:=hcs.toBOk
 have hbl:=bsl_of hB
 have hlcs:=hlen i hi
 have hcl2:(iD S bs i).length = S.m:=hB.len
 have hi2:i < (MB (iD S bs i)).length:=by omega
 have hg:=sH hi2
 have hnb':=hnn i hi
 have enx:iD S bs (i + 1) = oI S (iD S bs i) i:=rfl
 rw [clearAt_is] at enx
 generalize iD S bs i = cs at *
 by_cases hlo:cs.getD i 0 < S.n
 ·rw [if_pos hlo] at enx
  repeat (first | (with_reducible first | refine W8 ?_ | refine VA rfl ?_) | ((with_reducible refine X8 fun K hK=>?_);simp (disch:=first | omega | simp only [sB];omega) only [qB,reduceIte,reduceCtorEq,iT,nA,nS,nM,iA,iS,iM,iN,fU,fI,hg];subst hK))
  refine ⟨(i + 1),?hI4,?hM4,TB.head (show _ <= 6 from Nat.le_of_ble_eq_true rfl) [SA,TA,TA,TA,TA,TA,TA,TA,SA,SA] ?hT4 ?hH4⟩
  case hT4 | hH4=>first | (simp (disch:=omega) only [pD,IB,lB,XA,clean1,JB,reduceIte,iS,iA,iN,q0,q1,q2,qR,enx];done) | rfl
  ·show i + 1 <= S.m;omega
  ·show S.m - (i + 1) < S.m - i;omega
 ·rw [if_neg hlo] at enx
  repeat (first | (with_reducible first | refine W8 ?_ | refine VA rfl ?_) | ((with_reducible refine X8 fun K hK=>?_);simp (disch:=first | omega | simp only [sB];omega) only [qB,reduceIte,reduceCtorEq,iT,nA,nS,nM,iA,iS,iM,iN,fU,fI,hg];subst hK))
  refine xB (fun (zz:Nat)=>⟨(aT v :: .junk :: aI i :: J4 (.junk :: aI S.m :: aI i :: L8 (.junk :: .junk :: aI S.n :: aI zz :: K8 (.junk :: .junk :: [])))),[P0,P1,P2,⟨v,113,9,[[.c (.val (.int .i64 (S.n:Int))),.c (.val (.int .i64 (S.m:Int))),.c (jB 1 fM (TD S)),.c (vr (aQ S.b)),.c mn,.own 4 vb,.c (.val (.int .i64 st)),.c (.val (.int .i64 bu)),.c wk]],SA,SA⟩,⟨vb,3,1,wB fI (MB cs),SA,nb⟩,R]⟩) (fun (zz:Nat)=>zz <= S.n /\ ∀ j,j < zz -> GO S cs i j = TA) (fun (zz:Nat)=>S.n - zz) (0) ?hI5 (TB.head (show _ <= 6 from Nat.le_of_ble_eq_true rfl) [SA,TA,SA,TA,TA,TA,TA,TA,SA,SA,TA,TA,TA,TA,TA,TA,TA,TA,TA,TA,TA,TA,TA,TA,TA,TA,TA,TA,SA,SA] ?hT5 ?hH5) ?hB5
  case hT5 | hH5=>first | (simp (disch:=omega) only [pD,IB,lB,XA,clean1,JB,reduceIte,iS,iA,iN,q0,q1,q2,qR,hcols];done) | rfl
  ·exact ⟨fN _,fun j hj=>by omega⟩
  rintro k ⟨hk,hs⟩
  by_cases hkn:k = S.n
  ·have e:(List.range S.n).find? (GO S cs i) = QA:=by
    rw [List.find?_eq_none]
    intro j hj
    rw [hs j (by rw [hkn];exact zA.1 hj)]
    simp
   rw [e] at enx
   dsimp only at enx
   repeat (first | (with_reducible first | refine W8 ?_ | refine VA rfl ?_) | ((with_reducible refine X8 fun K hK=>?_);simp (disch:=first | omega | simp only [sB];omega) only [qB,reduceIte,reduceCtorEq,iT,nA,nS,nM,iA,iS,iM,iN,fU];subst hK))
   refine ⟨(i + 1),?hI6,?hM6,TB.head (show _ <= 6 from Nat.le_of_ble_eq_true rfl) [SA,TA,TA,TA,TA,TA,TA,TA,SA,SA] ?hT6 ?hH6⟩
   case hT6 | hH6=>first | (simp (disch:=omega) only [pD,IB,lB,XA,clean1,JB,reduceIte,iS,iA,iN,q0,q1,q2,qR,enx];done) | rfl
   ·show i + 1 <= S.m;omega
   ·show S.m - (i + 1) < S.m - i;omega
  ·have hkl:k < S.n:=by omega
   have hct:=contains_I (aC (MB cs)) (k:Int) (by rw [WB];omega)
   rw [WB,contains_N] at hct
   have nxt:GO S cs i k = TA -> ∀ j,j < k + 1 -> GO S cs i j = TA:=fun hf j hj=>by
    by_cases e:j = k
    ·rw [e];exact hf
    ·exact hs j (by omega)
   cases hc:cs.contains k with
   | true =>
    rw [hc] at hct
    have hf:GO S cs i k = TA:=by unfold GO;rw [hc];rfl
    repeat (first | (with_reducible first | refine W8 ?_ | refine VA rfl ?_) | ((with_reducible refine X8 fun K hK=>?_);simp (disch:=first | omega | simp only [sB];omega) only [qB,reduceIte,reduceCtorEq,iT,nA,nS,nM,iA,iS,iM,iN,fU];subst hK) | refine zqF (hct) ?_)
    refine ⟨(k + 1),?hI7,?hM7,TB.head (show _ <= 6 from Nat.le_of_ble_eq_true rfl) [SA,TA,SA,TA,TA,TA,TA,TA,SA,SA,TA,TA,TA,TA,TA,TA,TA,TA,TA,TA,TA,TA,TA,TA,TA,TA,TA,TA,SA,SA] ?hT7 ?hH7⟩
    case hT7 | hH7=>first | (simp (disch:=omega) only [pD,IB,lB,XA,clean1,JB,reduceIte,iS,iA,iN,q0,q1,q2,qR];done) | rfl
    ·exact ⟨hkl,nxt hf⟩
    ·show S.n - (k + 1) < S.n - k;omega
   | false =>
    rw [hc] at hct
    have hk2:k < (UA (TD S)).length:=by omega
    have hck:=KM hk2
    have hkc:k < S.cols.length:=by have:=hS.cl;omega
    have fcol:∀ q ∈ S.cols.getD k [],SB q L:=fun q hq=>by
     rw [bA,aA hkc] at hq
     exact hS.colf _ (gA hkc) q hq
    have fd:∀ q ∈ dL S cs k,SB q (4 ^ S.m * (L + 1)):=fun q hq=>wF (vH (LJ hS hB.len)) l1 (hS.cm k hkl) fcol q hq
    have hs2:=yT S L hS cs hbl (S.cols.getD k []) (hS.cm k hkl) fcol v vb nb mn st bu wk P0 P1 P2 R h0 h1 h2 hR
    change DE _ _ _ _ (aV (aQ (dL S cs k))) _ at hs2
    unfold tB at hs2
    have hdl:=d_len hS.toWf hB k
    have hrd:=nD (dL S cs k)
    have hdi:i < (UA (aQ (dL S cs k))).length:=by omega
    have hrg:=IK hdi
    have hsg:=BG (eB ((dL S cs k).getD i 0)) (QB ((fd _ (by rw [bA,aA (by omega)];exact gA _)).mono (by omega)))
    have hsz:=sgn_nz ((dL S cs k).getD i 0)
    have hcb:GO S cs i k = decide ((dL S cs k).getD i 0 ≠ 0):=by unfold GO;rw [hc];rfl
    generalize dE (eB ((dL S cs k).getD i 0)).top = z at hsg hsz
    by_cases hz0:z = 0
    ·have hf:GO S cs i k = TA:=by rw [hcb];exact decide_eq_false (fun h=>h (hsz.1 hz0))
     repeat (first | (with_reducible first | refine W8 ?_ | refine VA rfl ?_) | ((with_reducible refine X8 fun K hK=>?_);simp (disch:=first | omega | simp only [sB];omega) only [qB,reduceIte,reduceCtorEq,iT,nA,nS,nM,iA,iS,iM,iN,fU,fM,fR,hck,hrg];subst hK) | refine zqF (hct) ?_ | (apply PM (hs2) rfl rfl;(case hg=>simp (disch:=first | omega | (simp only [sB];omega)) only [qB,reduceIte,reduceCtorEq,iT,nA,nS,nM,iA,iS,iM,iN,fU,fM,fR,hck,hrg])) | refine UJ (hsg) ?_)
     refine ⟨(k + 1),?hI8,?hM8,TB.head (show _ <= 6 from Nat.le_of_ble_eq_true rfl) [SA,TA,SA,TA,TA,TA,TA,TA,SA,SA,TA,TA,TA,TA,TA,TA,TA,TA,TA,TA,TA,TA,TA,TA,TA,TA,TA,TA,SA,SA] ?hT8 ?hH8⟩
     case hT8 | hH8=>first | (simp (disch:=omega) only [pD,IB,lB,XA,clean1,JB,reduceIte,iS,iA,iN,q0,q1,q2,qR];done) | rfl
     ·exact ⟨hkl,nxt hf⟩
     ·show S.n - (k + 1) < S.n - k;omega
    ·have hf:GO S cs i k = SA:=by rw [hcb];exact decide_eq_true (fun h=>hz0 (hsz.2 h))
     have e:(List.range S.n).find? (GO S cs i) = PA k:=by
      rw [List.find?_range_eq_some]
      exact ⟨hf,zA.2 hkl,fun j hj=>by rw [hs j hj];rfl⟩
     rw [e] at enx
     dsimp only at enx
     have hsI:∀ b:Int,(wB fI (MB cs)).set i [Cell.c (.val (.int .i64 b))] = wB fI ((MB cs).set i b):=fun b=>SE (MB cs) i b
     have hsk:=MS cs i k
     repeat (first | (with_reducible first | refine W8 ?_ | refine VA rfl ?_) | ((with_reducible refine X8 fun K hK=>?_);simp (disch:=first | omega | simp only [sB];omega) only [qB,reduceIte,reduceCtorEq,iT,nA,nS,nM,iA,iS,iM,iN,fU,fM,fI,fR,hck,hrg,hsI];subst hK) | refine zqF (hct) ?_ | (apply PM (hs2) rfl rfl;(case hg=>simp (disch:=first | omega | (simp only [sB];omega)) only [qB,reduceIte,reduceCtorEq,iT,nA,nS,nM,iA,iS,iM,iN,fU,fM,fI,fR,hck,hrg,hsI])) | refine UJ (hsg) ?_)
     refine ⟨(i + 1),?hI9,?hM9,TB.head (show _ <= 6 from Nat.le_of_ble_eq_true rfl) [SA,TA,TA,TA,TA,TA,TA,TA,SA,SA] ?hT9 ?hH9⟩
     case hT9 | hH9=>first | (simp (disch:=omega) only [pD,IB,lB,XA,clean1,JB,reduceIte,iS,iA,iN,q0,q1,q2,qR,enx,hsk];done) | rfl
     ·show i + 1 <= S.m;omega
     ·show S.m - (i + 1) < S.m - i;omega
def OX (m:MD) (n:NB) (b i:Nat):RowM:=⟨(MG m i).name,aC (tF (MG m i).coef (UA (UD n b))),(MG m i).rel,(MG m i).b⟩
def iF (m:MD) (n:NB) (b:Nat):Nat -> List RowM
 | 0=>[]
 | i + 1=>if (iK m n).getD i (-1) = (b:Int) then iF m n b i ++ [OX m n b i] else iF m n b i
def GH (m:MD) (n:NB) (b:Nat):MD:=⟨aC (sF m.vars (UA (UD n b))),aC (tF m.cost (UA (UD n b))),aC (iF m n b (UA m.rows).length)⟩
theorem kR {m:MD} {n:NB} (h:OG m n = SA) {b:Nat} (hb:b < (UA n).length):inB (UA m.vars).length (UA (UD n b)):=fun z hz=>by
 obtain ⟨i,hi,rfl⟩:=List.getElem_of_mem hz
 have h1:=okTo_at h hb (show i < CF n b from hi)
 unfold okK NG at h1
 rw [bA,aA hi] at h1
 simp only [JA,decide_eq_true_eq,DA] at h1
 exact ⟨h1.1,h1.2.1⟩
theorem encB_fRow1 (out:List RowM) (r:RowM):wB DD out ++ [[Cell.c (.str r.name),.c (vr r.coef),.c (.val (.int .i64 r.rel)),.c (.val (.bool r.b.minus)),.c (nr r.b.size),.c (nr r.b.den)]] = wB DD (out ++ [r]):=by rw [<- XC];rfl
theorem kV {α:Type} (l:List α):(UA (aC l)).length = l.length:=by rw [WB]
abbrev c11_k1:CC:=(.seq (.reg [(lT 81 3 9),(oD 82 (.callf (.func 15) [(tP 81)])),(mV 80 82),(eX 83 80 0),(eX 84 80 1),(oD 13 (.new 34 [(.slice QA 0 0),(.slice QA 0 0),(.slice QA 0 0)])),(sT 3 13 83),(mV 14 84)]) (.seq (.reg [(lT 85 3 13),(mV 86 8),(oD 87 (.build [(.slice QA 0 0),(.slice QA 0 0),(.slice QA 0 0),(.slice QA 0 0)] [(0,(3,(tP 85))),(3,(1,(tP 86)))])),(mV 88 14),(sT 4 6 87),(mV 7 88)]) .ret))
abbrev c11_b1:CC:=(.seq (.reg [(bB 51 .lss 50 49)]) (.seq (.cond (tP 51) .skip (.exit 0)) (.seq (.block 1 (.seq (.reg [(mV 52 50),(xA 53 1 48 50),(lF 54 1 53),(mV 10 52),(mV 11 54)]) (.seq (.reg [(mV 55 11),(mV 56 2),(bB 57 .eql 55 56)]) (.cond (tP 57) (.seq (.reg [(fA 58 2 3),(lF 59 1 58),(mV 60 10),(xA 61 6 59 60),(lT 62 6 61),(oD 12 (.new 50 [(.string ⟨#[]⟩),(.slice QA 0 0),(.int .i64 (0)),(.bool TA),(.slice QA 0 0),(.slice QA 0 0)])),(sT 6 12 62)]) (.reg [(fA 63 2 9),(lF 64 1 63),(fA 65 0 12),(lF 66 1 65),(fA 67 1 12),(lF 68 1 67),(mV 69 8),(oD 70 (.callf (.func 38) [(tP 68),(tP 69)])),(fA 71 2 12),(lF 72 1 71),(fA 73 3 12),(lT 74 3 73),(oD 75 (.build [(.string ⟨#[]⟩),(.slice QA 0 0),(.int .i64 (0)),(.bool TA),(.slice QA 0 0),(.slice QA 0 0)] [(0,(1,(tP 66))),(1,(1,(tP 70))),(2,(1,(tP 72))),(3,(3,(tP 74)))])),(oD 76 (.mkrow 50 6 [(tP 75)])),(oD 77 (.append 50 6 104 (tP 64) (tP 76))),(fA 78 2 9),(sT 1 78 77)])) .skip)))) (.reg [(bC 79 .add 50 1),(mV 50 79)]))))
abbrev c11:CC:=(.seq (.reg [(oD 3 (.box 26 (tP 0))),(oD 4 (.box 29 (tP 1))),(oD 6 (.new 37 [(.slice QA 0 0),(.slice QA 0 0),(.slice QA 0 0),(.slice QA 0 0)])),(mI 7 0)]) (.seq (.seq (.reg [(lT 15 3 3),(lT 16 1 4),(oD 17 (.callf (.func 12) [(tP 15),(tP 16)])),(uN 18 17),(mV 19 18),(gM 20 19 TA 2),(oG 21 19 TA (.bin .lss (tP 20) (.const (.int .i64 (0))))),(pT 22 19 21),(mV 23 22),(gM 24 23 TA 2),(oG 25 23 TA (.faddr 0 (tP 4))),(oG 26 23 TA (.load 1 TA (tP 25))),(oG 27 23 TA (.len TA (tP 26))),(oG 28 23 TA (.bin .geq (tP 24) (tP 27))),(pT 29 23 28)]) (.cond (tP 29) (.seq (.reg [(oD 30 (.build [(.slice QA 0 0),(.slice QA 0 0),(.slice QA 0 0),(.slice QA 0 0)] [])),(sT 4 6 30),(mI 7 1)]) .ret) .skip)) (.seq (.reg [(fA 31 0 4),(lF 32 1 31),(mV 33 2),(xA 34 1 32 33),(lF 35 1 34),(oD 36 (.callf (.func 36) [(tP 35)])),(mV 8 36)]) (.seq (.regn SA [(fA 37 0 3),(lF 38 1 37),(mV 39 8),(oD 40 (.callf (.func 37) [(tP 38),(tP 39)])),(fA 41 1 3),(lF 42 1 41),(mV 43 8),(oD 44 (.callf (.func 38) [(tP 42),(tP 43)])),(oD 45 (.build [(.slice QA 0 0),(.slice QA 0 0),(.slice QA 0 0)] [(0,(1,(tP 40))),(1,(1,(tP 44)))])),(oD 9 (.fill 26 [(.slice QA 0 0),(.slice QA 0 0),(.slice QA 0 0)])),(sT 3 9 45)]) (.seq (.seq (.reg [(lT 46 3 3),(lT 47 1 4),(oD 48 (.callf (.func 14) [(tP 46),(tP 47)])),(nL 49 48),(mI 50 0)]) (.block 0 (.loop c11_b1))) c11_k1)))))
theorem cc11:ZA Tryz.prog [] (Tryz.f11.body.getD .skip) = PA c11:=by kernel_rfl
theorem body11:Tryz.f11.body = PA (Tryz.f11.body.getD .skip):=rfl
theorem pof_no (m:MD) (n:NB) (b:Int) (hn:FitsN n) (hw:∀ s ∈ UA m.vars,s.length <= 1000000) (hr:∀ r ∈ UA m.rows,r.name.length <= 1000000) (h:bH m n = TA \/ b < 0 \/ (UA n).length <= b) :
  YA Tryz.prog 11 [aMd m,aNo n,aI b] (.ret (.tup [aBk ⟨QA,QA,QA⟩ QA,aI 1])):=by
 have hri:=jK m n hn hw hr
 cases hb:bH m n with
 | false =>
  rw [hb] at hri
  refine WA (rs:=[(RV.cell 6 4 SA),(RV.tmp 7)]) Tryz.func11 (fun a w=>Tryz.call11 a w) body11 cc11 (by kernel_rfl) ?_
  rw [Tryz.ntmps11]
  simp only [pC,nA,nS]
  repeat (first | (with_reducible first | refine W8 ?_ | refine VA rfl ?_) | ((with_reducible refine X8 fun K hK=>?_);simp (disch:=first | omega | simp only [sB];omega) only [qB,reduceIte,reduceCtorEq,iT,nA,nS,nM,iA,iS,iM,iN,fU];subst hK) | refine KB (hri) rfl rfl rfl ?_)
  exact ⟨_,rfl,rfl⟩
 | true =>
  rw [hb] at hri h
  have h:=h.resolve_left (by simp)
  by_cases h0:b < 0
  ·refine WA (rs:=[(RV.cell 6 4 SA),(RV.tmp 7)]) Tryz.func11 (fun a w=>Tryz.call11 a w) body11 cc11 (by kernel_rfl) ?_
   rw [Tryz.ntmps11]
   simp only [pC,nA,nS]
   repeat (first | (with_reducible first | refine W8 ?_ | refine VA rfl ?_) | ((with_reducible refine X8 fun K hK=>?_);simp (disch:=first | omega | simp only [sB];omega) only [qB,reduceIte,reduceCtorEq,iT,nA,nS,nM,iA,iS,iM,iN,fU];subst hK) | refine KB (hri) rfl rfl rfl ?_)
   exact ⟨_,rfl,rfl⟩
  ·have h1:=h.resolve_left h0
   refine WA (rs:=[(RV.cell 6 4 SA),(RV.tmp 7)]) Tryz.func11 (fun a w=>Tryz.call11 a w) body11 cc11 (by kernel_rfl) ?_
   rw [Tryz.ntmps11]
   simp only [pC,nA,nS]
   repeat (first | (with_reducible first | refine W8 ?_ | refine VA rfl ?_) | ((with_reducible refine X8 fun K hK=>?_);simp (disch:=first | omega | simp only [sB];omega) only [qB,reduceIte,reduceCtorEq,iT,nA,nS,nM,iA,iS,iM,iN,fU];subst hK) | refine KB (hri) rfl rfl rfl ?_)
   exact ⟨_,rfl,rfl⟩
theorem pof_yes (m:MD) (n:NB) (b L:Nat) (hn:FitsN n) (hv:(UA m.vars).length <= 50) (hw:∀ s ∈ UA m.vars,s.length <= 1000000) (hr:∀ r ∈ UA m.rows,r.name.length <= 1000000) (hf:∀ r ∈ UA m.rows,∀ x ∈ UA r.coef,vD x L) (hL:L <= 1000000) (hb:bH m n = SA) (hbl:b < (UA n).length)
  (p:PB) (e:Int) (hof:YA Tryz.prog 15 [aMd (GH m n b)] (.ret (.tup [aP p,aI e]))) :
  YA Tryz.prog 11 [aMd m,aNo n,aI b] (.ret (.tup [aBk p (UD n b),aI e])):=by
 have hri:=jK m n hn hw hr
 rw [hb] at hri
 have hro:=rows9_C m n L hn hv hw hr hf hL
 unfold rowsV at hro
 rw [hb,if_pos rfl] at hro
 have hb':=hb
 unfold bH at hb'
 simp only [JA] at hb'
 have hin:=kR hb'.2.1 hbl
 have hmd:=hb'.2.2
 have hrl:(UA m.rows).length <= 60:=by
  unfold VD at hmd
  simp only [JA,decide_eq_true_eq] at hmd
  exact hmd.2.2.1
 have hcl:(UA m.cost).length = (UA m.vars).length:=by
  unfold VD at hmd
  simp only [JA,decide_eq_true_eq] at hmd
  exact hmd.2.1
 have hcf:=fun i (hi:i < (UA m.rows).length)=>md_coef hmd hi
 have hnl:=hn.l
 have hbn:=qI hbl
 have hvl:(UA (UD n b)).length <= 100:=hn.len b
 have hRl:(iK m n).length = (UA m.rows).length:=by unfold iK;rw [eA]
 have hcn:=eR (UD n b) (by omega)
 have hps:=pickS_C m.vars (UD n b) hin (by omega) (by omega)
 have hpq:=pickQ_C m.cost (UD n b) (by rw [hcl];exact hin) (by omega) (by omega)
 have hpr:=fun i (hi:i < (UA m.rows).length)=>pickQ_C (UA m.rows)[i].coef (UD n b) (by rw [(hcf i hi).1];exact hin) (by omega) (by rw [(hcf i hi).1];omega)
 have hoR:∀ i (hi:i < (UA m.rows).length),OX m n b i = ⟨(UA m.rows)[i].name,aC (tF (UA m.rows)[i].coef (UA (UD n b))),(UA m.rows)[i].rel,(UA m.rows)[i].b⟩:=fun i hi=>by unfold OX;rw [FD hi]
 unfold GH at hof
 have hoT:∀ i,iF m n b (i + 1) = if (iK m n).getD i (-1) = (b:Int) then iF m n b i ++ [OX m n b i] else iF m n b i:=fun i=>rfl
 have hoL:∀ i,(iF m n b i).length <= i:=fun i=>by
  induction i with
  | zero=>exact EA _
  | succ i ih =>
   rw [hoT]
   split
   ·rw [sA,List.length_singleton];omega
   ·omega
 have hoZ:iF m n b 0 = []:=rfl
 generalize iF m n b = OT at *
 generalize hRv:iK m n = R at *
 generalize sF m.vars (UA (UD n b)) = PS at *
 generalize tF m.cost (UA (UD n b)) = PQ at *
 rw [hbn] at hcn hps hpq hpr ⊢
 generalize hVS:(UA n)[b] = VS at *
 refine WA (rs:=[(RV.cell 6 4 SA),(RV.tmp 7)]) Tryz.func11 (fun a w=>Tryz.call11 a w) body11 cc11 (by kernel_rfl) ?_
 rw [Tryz.ntmps11]
 simp only [pC,nA,nS]
 repeat (first | (with_reducible first | refine W8 ?_ | refine VA rfl ?_) | ((with_reducible refine X8 fun K hK=>?_);simp (disch:=first | omega | simp only [sB];omega) only [qB,reduceIte,reduceCtorEq,iT,nA,nS,nM,iA,iS,iM,iN,fU,fIs,hVS];subst hK) | refine KB (hri) rfl rfl rfl ?_ | refine KB (hcn) rfl rfl rfl ?_ | refine KB (hps) rfl rfl rfl ?_ | refine KB (hpq) rfl rfl rfl ?_ | refine KB (hro) rfl rfl rfl ?_)
 refine uD.fgt ?_ (TB.phantom _ 50 6)
 refine uD.fgt ?_ (TB.cellsOpen (b:=3) (els':=[[.c (jB 1 fW (aC PS)),.c (vr (aC PQ)),.own 4 0]]) rfl (.cons (.cons (.inl rfl) (.cons (.inl rfl) (.cons (.inr ⟨rfl,4,_,rfl,rfl,rfl⟩) .nil))) .nil))
 simp only [rA,qA,lA,mA]
 refine xB (fun (zz:Nat × (List RowM) × Nat × Bool)=>⟨(.junk :: .junk :: aI b :: .one (.ptr 0 0 0 0) :: .one (.ptr 1 0 0 0) :: .junk :: .one (.ptr 2 0 0 0) :: .junk :: QL VS :: .one (.ptr 3 1 0 0) :: K8 (J4 (.junk :: .junk :: QL (aC R) :: aI R.length :: aI zz.1 :: K8 (J4 (.junk :: .junk :: []))))),[⟨0,26,3,[[.c (jB 1 fW m.vars),.c (vr m.cost),.c (jB 6 DD m.rows)]],SA,SA⟩,⟨0,29,1,[[.c (jB 1 fIs n)]],SA,SA⟩,⟨0,37,4,[[.c (.val (.slice QA 0 0)),.c (.val (.slice QA 0 0)),.c (.val (.slice QA 0 0)),.c (.val (.slice QA 0 0))]],SA,SA⟩,⟨1,26,3,[[.c (jB 1 fW (aC PS)),.c (vr (aC PQ)),.own 4 zz.2.2.1]],SA,SA⟩,⟨zz.2.2.1,50,6,wB DD zz.2.1,SA,zz.2.2.2⟩]⟩) (fun (zz:Nat × (List RowM) × Nat × Bool)=>zz.1 <= R.length /\ zz.2.1 = OT zz.1 /\ zz.2.2.2 = !zz.2.1.isEmpty) (fun (zz:Nat × (List RowM) × Nat × Bool)=>R.length - zz.1) (0,[],0,TA) ?hI1 (TB.head (fN 5) (TA :: TA :: SA :: SA :: SA :: TA :: SA :: TA :: SA :: SA :: M8 (F4 (TA :: TA :: SA :: SA :: SA :: []))) ?hT1 ?hH1) ?hB1
 case hT1 | hH1=>first | (simp (disch:=omega) only [pD,IB,lB,XA,clean1,uB,reduceIte,iS,iA,iN,CE,kV];done) | rfl
 ·dsimp only;exact ⟨fN _,hoZ.symm,rfl⟩
 rintro ⟨i,out,u,nn⟩ ⟨hi,ho,hnn⟩
 dsimp only at hi ho hnn
 by_cases him:i = R.length
 ·rw [him,hRl] at ho
  rw [<- ho] at hof
  refine uD.fgt ?_ (TB.cells (b:=3) (els':=[[.c (jB 1 fW (aC PS)),.c (vr (aC PQ)),.c (jB 6 DD (aC out))]]) [4] rfl rfl (.cons (.cons (.inl rfl) (.cons (.inl rfl) (.cons ((JG (c:=4) rfl (by decide) hnn (by simp)).2 0 _ _ rfl rfl) .nil))) .nil))
  rw [oC]
  simp only [lA,mA,YH,nB,nA,IA,if_true,if_false,reduceIte]
  repeat (first | (with_reducible first | refine W8 ?_ | refine VA rfl ?_) | ((with_reducible refine X8 fun K hK=>?_);simp (disch:=first | omega | simp only [sB];omega) only [qB,reduceIte,reduceCtorEq,iT,nA,nS,nM,iA,iS,iM,iN,fU,him];subst hK) | refine KB (hof) rfl rfl rfl ?_)
  exact ⟨_,rfl,rfl⟩
 ·have hlt:i < R.length:=by omega
  have hlm:i < (UA m.rows).length:=by omega
  have hlo:i < (UA (aC R)).length:=by rw [kV];exact hlt
  have hge:∀ h:i < (UA (aC R)).length,(UA (aC R))[i] = R[i]:=fun h=>List.getElem_of_eq (WB R) h
  have hgd:R.getD i (-1) = R[i]:=by rw [bA,aA hlt];rfl
  have hos:=hoT i
  rw [hgd] at hos
  have hpi:=hpr i hlm
  have hoi:=hoR i hlm
  have hol:=hoL i
  rw [<- ho] at hol hos
  by_cases he:R[i] = (b:Int)
  ·rw [if_pos he,hoi] at hos
   have hsn:=encB_fRow1 out ⟨(UA m.rows)[i].name,aC (tF (UA m.rows)[i].coef (UA VS)),(UA m.rows)[i].rel,(UA m.rows)[i].b⟩
   rw [hbn] at hos
   dsimp only at hsn
   repeat (first | (with_reducible first | refine W8 ?_ | refine VA rfl ?_) | ((with_reducible refine X8 fun K hK=>?_);simp (disch:=first | omega | simp only [sB];omega) only [qB,reduceIte,reduceCtorEq,iT,nA,nS,nM,iA,iS,iM,iN,fU,DD,fI,hge,he,hsn];subst hK) | refine KB (hpi) rfl rfl rfl ?_)
   refine ⟨(i + 1,out ++ [⟨(UA m.rows)[i].name,aC (tF (UA m.rows)[i].coef (UA VS)),(UA m.rows)[i].rel,(UA m.rows)[i].b⟩],u + 1,SA),?hI2,?hM2,TB.headE (fN 5) (TA :: TA :: SA :: SA :: SA :: TA :: SA :: TA :: SA :: SA :: M8 (F4 (TA :: TA :: SA :: SA :: SA :: [])))⟩
   ·dsimp only;exact ⟨by omega,hos.symm,by cases out <;> rfl⟩
   ·dsimp only;omega
  ·rw [if_neg he] at hos
   repeat (first | (with_reducible first | refine W8 ?_ | refine VA rfl ?_) | ((with_reducible refine X8 fun K hK=>?_);simp (disch:=first | omega | simp only [sB];omega) only [qB,reduceIte,reduceCtorEq,iT,nA,nS,nM,iA,iS,iM,iN,fU,DD,fI,hge,he];subst hK))
   refine ⟨(i + 1,out,u,nn),?hI3,?hM3,TB.headA (fN 5) (TA :: TA :: SA :: SA :: SA :: TA :: SA :: TA :: SA :: SA :: M8 (F4 (TA :: TA :: SA :: SA :: SA :: [])))⟩
   ·dsimp only;exact ⟨by omega,hos.symm,hnn⟩
   ·dsimp only;omega
abbrev c113_k1:CC:=(.seq (.reg [(mV 38 5),(mV 4 38)]) .ret)
abbrev c113_b1:CC:=(.seq (.reg [(bB 20 .lss 19 18)]) (.seq (.cond (tP 20) .skip (.exit 0)) (.seq (.block 1 (.seq (.reg [(mV 21 19),(xA 22 1 17 19),(lF 23 1 22),(mV 6 21),(mV 7 23)]) (.seq (.reg [(mV 24 7),(mV 25 0),(fA 26 0 25),(fA 27 0 26),(lF 28 1 27),(bB 29 .lss 24 28)]) (.cond (tP 29) (.reg [(mV 30 5),(mV 31 7),(mV 32 1),(mV 33 6),(xA 34 3 32 33),(lT 35 3 34),(xA 36 3 30 31),(sT 3 36 35)]) .skip)))) (.reg [(bC 37 .add 19 1),(mV 19 37)]))))
abbrev c113:CC:=(.seq (.reg [(oD 4 (.mv nC))]) (.seq (.reg [(mV 8 0),(fA 9 0 8),(fA 10 0 9),(lF 11 1 10),(oD 12 (.make 3 1 8 [(.int .i64 (0))] (tP 11) (tP 11))),(oD 13 (.callf (.func 34) [(tP 12)])),(mV 5 13)]) (.seq (.seq (.reg [(mV 14 0),(fA 15 0 14),(fA 16 5 15),(lF 17 1 16),(nL 18 17),(mI 19 0)]) (.block 0 (.loop c113_b1))) c113_k1)))
theorem cc113:ZA Tryz.prog [] (Tryz.f113.body.getD .skip) = PA c113:=by kernel_rfl
theorem body113:Tryz.f113.body = PA (Tryz.f113.body.getD .skip):=rfl
theorem spread_P (S:SD) (hn:S.n <= 5000) (bs:List Nat) (bl:Option (List Int)) (hob:UA bl = MB bs) (l:List Rat) (hl:l.length = bs.length) (hbl:bs.length <= 1000) (mn:CV) (st bu:Int) (wk:CV) :
  YA Tryz.prog 113 [aTc S mn (jB 1 fI bl) st bu wk,aV (aQ l)] (.fresh 48 3 (((cC S bs l).map eB).map fR) (!decide (S.n = 0))):=by
 have hints:=ints0 S.n (by omega)
 have hol:(UA bl).length = bs.length:=by rw [hob,eC]
 have hrl:=nD l
 have hsl:=fun i=>nG S.n bs l i
 have hz:(jA S.n (eB 0)) = (wD S.n bs l 0).map eB:=by unfold wD;rw [List.map_replicate]
 refine WA (rs:=[(RV.tmp 4)]) Tryz.func113 (fun a w=>Tryz.call113 a w) body113 cc113 (by kernel_rfl) ?_
 rw [Tryz.ntmps113]
 simp only [pC,nA,nS]
 repeat (first | (with_reducible first | refine W8 ?_ | refine VA rfl ?_) | ((with_reducible refine X8 fun K hK=>?_);simp (disch:=first | omega | simp only [sB];omega) only [qB,reduceIte,reduceCtorEq,iT,nA,nS,nM,iA,iS,iM,iN,fU,sS];subst hK) | (apply KG (hints) rfl;(case hcl=>(simp only [oE,St.ev,yB,NE];(repeat (first | exact kB | (apply gB;(first | (refine CB rfl (by decide)) | (refine BB rfl (by decide) ?_;assumption) | rfl))));done));(case hu=>(simp only [oE,St.ev,yB,NE];(repeat (first | exact RC | (apply AC;(first | (apply xC;rfl) | rfl))));done));(case hh=>((simp only [YH,EB,nB,nA,IA,if_true,if_false,reduceIte]) <;> rfl))))
 refine xB (fun (zz:Nat × (List RR))=>⟨(aTc S mn (jB 1 fI bl) st bu wk :: aV (aQ l) :: .junk :: .junk :: .junk :: .one (.own 1 0) :: J8 (.junk :: .junk :: .junk :: QL bl :: aI bs.length :: aI zz.1 :: L8 (.junk :: .junk :: .junk :: []))),[⟨0,3,1,wB fI (jA S.n 0),TA,SA⟩,⟨0,48,3,wB fR zz.2,SA,!decide (S.n = 0)⟩]⟩) (fun (zz:Nat × (List RR))=>zz.1 <= bs.length /\ zz.2 = (wD S.n bs l zz.1).map eB) (fun (zz:Nat × (List RR))=>bs.length - zz.1) (0,jA S.n (eB 0)) ?hI1 (TB.head (fN 2) [SA,SA,TA,TA,TA,SA,TA,TA,TA,TA,TA,TA,TA,TA,TA,TA,TA,SA,SA,SA] ?hT1 ?hH1) ?hB1
 case hT1 | hH1=>first | (simp (disch:=omega) only [pD,IB,lB,XA,clean1,JB,reduceIte,iS,iA,iN,hol];done) | rfl
 ·dsimp only;exact ⟨fN _,hz⟩
 rintro ⟨i,out⟩ ⟨hi,ho⟩
 dsimp only at hi ho
 have houtl:out.length = S.n:=by rw [ho,eA,hsl]
 by_cases him:i = bs.length
 ·repeat (first | (with_reducible first | refine W8 ?_ | refine VA rfl ?_) | ((with_reducible refine X8 fun K hK=>?_);simp (disch:=first | omega | simp only [sB];omega) only [qB,reduceIte,reduceCtorEq,iT,nA,nS,nM,iA,iS,iM,iN,fU];subst hK))
  refine ⟨_,rfl,?_⟩
  rw [ho,him]
  exact JD.fresh_enc rfl
 ·have hlt:i < bs.length:=by omega
  have hi1:i < (UA bl).length:=by omega
  have hgi:(UA bl)[i] = ((bs.getD i 0:Nat):Int):=by rw [List.getElem_of_eq hob];exact sH (by rw [eC];exact hlt)
  have hl1:i < (UA (aQ l)).length:=by omega
  have hrg:=IK hl1
  have enx:wD S.n bs l (i + 1) = if bs.getD i 0 < S.n then (wD S.n bs l i).set (bs.getD i 0) (l.getD i 0) else wD S.n bs l i:=rfl
  generalize hk:bs.getD i 0 = k at hgi enx
  have hsR:∀ (l:List RR) (k:Nat) (r:RR),(wB fR l).set k [Cell.c (.val (.bool r.minus)),Cell.c (nr r.size),Cell.c (nr r.den)] = wB fR (l.set k r):=fun l k r=>SE l k r
  by_cases hkn:k < S.n
  ·rw [if_pos hkn] at enx
   have hN0:decide (S.n = 0) = TA:=decide_eq_false (by omega)
   repeat (first | (with_reducible first | refine W8 ?_ | refine VA rfl ?_) | ((with_reducible refine X8 fun K hK=>?_);simp (disch:=first | omega | simp only [sB];omega) only [qB,reduceIte,reduceCtorEq,iT,nA,nS,nM,iA,iS,iM,iN,fU,fI,fR,hgi,hrg,hsR];subst hK))
   refine ⟨(i + 1,out.set k (eB (l.getD i 0))),?hI2,?hM2,TB.head (fN 2) [SA,SA,TA,TA,TA,SA,TA,TA,TA,TA,TA,TA,TA,TA,TA,TA,TA,SA,SA,SA] ?hT2 ?hH2⟩
   case hT2 | hH2=>first | (simp (disch:=omega) only [pD,IB,lB,XA,clean1,JB,reduceIte,iS,iA,iN,hN0,LA];done) | rfl
   ·dsimp only;exact ⟨hlt,by rw [enx,ho,List.map_set]⟩
   ·dsimp only;omega
  ·rw [if_neg hkn] at enx
   repeat (first | (with_reducible first | refine W8 ?_ | refine VA rfl ?_) | ((with_reducible refine X8 fun K hK=>?_);simp (disch:=first | omega | simp only [sB];omega) only [qB,reduceIte,reduceCtorEq,iT,nA,nS,nM,iA,iS,iM,iN,fU,fI,fR,hgi,hrg];subst hK))
   refine ⟨(i + 1,out),?hI3,?hM3,TB.headP (fN 2) [SA,SA,TA,TA,TA,SA,TA,TA,TA,TA,TA,TA,TA,TA,TA,TA,TA,SA,SA,SA]⟩
   ·dsimp only;exact ⟨hlt,by rw [enx];exact ho⟩
   ·dsimp only;omega
def fBo (b:Bool):List CV:=[.val (.bool b)]
def NR (l:List Bool):CV:=jB 1 fBo (aC l)
def kE (ms:List Bool) (l:List Rat) (i:Nat):List Rat:=(List.range i).map fun j=>if ms.getD j TA then -(l.getD j 0) else l.getD j 0
theorem ON (ms:List Bool) (l:List Rat) (i:Nat):kE ms l (i + 1) = kE ms l i ++ [if ms.getD i TA then -(l.getD i 0) else l.getD i 0]:=by unfold kE;rw [List.range_succ,List.map_append];rfl
theorem lP (ms:List Bool) (l:List Rat) (i:Nat):(kE ms l i).length = i:=by unfold kE;rw [eA,List.length_range]
abbrev c65_k1:CC:=(.seq (.reg [(mV 29 5),(mV 4 29)]) .ret)
abbrev c65_b1:CC:=(.seq (.reg [(bB 11 .lss 10 9)]) (.seq (.cond (tP 11) .skip (.exit 0)) (.seq (.block 1 (.seq (.reg [(mV 12 10),(xA 13 3 8 10),(lT 14 3 13),(oD 7 (.new 48 [(.bool TA),(.slice QA 0 0),(.slice QA 0 0)])),(mV 6 12),(sT 3 7 14)]) (.seq (.seq (.reg [(mV 15 0),(fA 16 0 15),(fA 17 4 16),(lF 18 1 17),(mV 19 6),(xA 20 1 18 19),(lF 21 1 20)]) (.cond (tP 21) (.reg [(lT 22 3 7),(oD 23 (.callf (.func 106) [(tP 22)])),(sT 3 7 23)]) .skip)) (.reg [(mV 24 5),(lT 25 3 7),(oD 26 (.mkrow 48 3 [(tP 25)])),(oD 27 (.append 48 3 56 (tP 24) (tP 26))),(mV 5 27)])))) (.reg [(bC 28 .add 10 1),(mV 10 28)]))))
abbrev c65:CC:=(.seq (.reg [(oD 4 (.mv nC))]) (.seq (.reg [(oD 5 (.mv nC))]) (.seq (.seq (.reg [(mV 8 1),(nL 9 8),(mI 10 0)]) (.block 0 (.loop c65_b1))) c65_k1)))
theorem cc65:ZA Tryz.prog [] (Tryz.f65.body.getD .skip) = PA c65:=by kernel_rfl
theorem body65:Tryz.f65.body = PA (Tryz.f65.body.getD .skip):=rfl
theorem turn_P (S:SD) (ms:List Bool) (l:List Rat) (L:Nat) (hl:l.length <= ms.length) (hm:ms.length <= 1000) (hlf:∀ q ∈ l,SB q L) (hL:L <= 9000000) (bc:CV) (st bu:Int) (wk:CV) :
  YA Tryz.prog 65 [aTc S (NR ms) bc st bu wk,aV (aQ l)] (.ret (aV (aQ (kE ms l l.length)))):=by
 have hob:UA (aC ms) = ms:=WB _
 have hrl:=nD l
 refine YA.fresh_rowO (ty:=48) (l:=(kE ms l l.length).map eB) ?_
 unfold NR
 refine WA (rs:=[(RV.tmp 4)]) Tryz.func65 (fun a w=>Tryz.call65 a w) body65 cc65 (by kernel_rfl) ?_
 rw [Tryz.ntmps65]
 simp only [pC,nA,nS]
 repeat (first | (with_reducible first | refine W8 ?_ | refine VA rfl ?_) | ((with_reducible refine X8 fun K hK=>?_);simp (disch:=first | omega | simp only [sB];omega) only [qB,reduceIte,reduceCtorEq,iT,nA,nS,nM,iA,iS,iM,iN,fU];subst hK))
 refine uD.fgt ?_ (TB.openNil (i:=5) rfl 48 3)
 simp only [lA,mA,pA,oA,qA,rA,nA]
 refine xB (fun (zz:Nat × (List RR) × Nat × Bool)=>⟨(aTc S (jB 1 fBo (aC ms)) bc st bu wk :: J4 (.one (.own 0 zz.2.2.1) :: .junk :: .junk :: aV (aQ l) :: aI l.length :: aI zz.1 :: L8 (.junk :: .junk :: .junk :: []))),[⟨zz.2.2.1,48,3,wB fR zz.2.1,SA,zz.2.2.2⟩]⟩) (fun (zz:Nat × (List RR) × Nat × Bool)=>zz.1 <= l.length /\ zz.2.1 = (kE ms l zz.1).map eB /\ zz.2.2.2 = !zz.2.1.isEmpty) (fun (zz:Nat × (List RR) × Nat × Bool)=>l.length - zz.1) (0,[],0,TA) ?hI4 (TB.head (fN 1) [SA,TA,TA,TA,TA,SA,TA,TA,SA,SA,SA] ?hT4 ?hH4) ?hB4
 case hT4 | hH4=>first | (simp (disch:=omega) only [pD,IB,lB,XA,clean1,JB,reduceIte,iS,iA,iN,CE,hrl];done) | rfl
 ·dsimp only;exact ⟨fN _,rfl,rfl⟩
 rintro ⟨i,out,u,nn⟩ ⟨hi,ho,hnn⟩
 dsimp only at hi ho hnn
 by_cases him:i = l.length
 ·repeat (first | (with_reducible first | refine W8 ?_ | refine VA rfl ?_) | ((with_reducible refine X8 fun K hK=>?_);simp (disch:=first | omega | simp only [sB];omega) only [qB,reduceIte,reduceCtorEq,iT,nA,nS,nM,iA,iS,iM,iN,fU];subst hK))
  refine ⟨_,rfl,?_⟩
  rw [him] at ho
  rw [<- ho,<- hnn]
  exact JD.fresh_enc rfl
 ·have hlt:i < l.length:=by omega
  have hl1:i < (UA (aQ l)).length:=by omega
  have hrg:=IK hl1
  have hm1:i < (UA (aC ms)).length:=by rw [hob];omega
  have hmg:(UA (aC ms))[i] = ms.getD i TA:=by rw [List.getElem_of_eq hob,bA,aA (by omega)];rfl
  have hol:out.length = i:=by rw [ho,eA,lP]
  have hng:=FT (eB (l.getD i 0)) (QB ((hlf _ (by rw [bA,aA hlt];exact gA _)).mono hL))
  rw [rawQ_val] at hng
  have enx:=ON ms l i
  cases hb:ms.getD i TA with
  | true =>
   rw [hb,if_pos rfl] at enx
   rw [hb] at hmg
   repeat (first | (with_reducible first | refine W8 ?_ | refine VA rfl ?_) | ((with_reducible refine X8 fun K hK=>?_);simp (disch:=first | omega | simp only [sB];omega) only [qB,reduceIte,reduceCtorEq,iT,nA,nS,nM,iA,iS,iM,iN,fU,fR,fBo,hrg,hmg];subst hK) | refine KB (hng) rfl rfl rfl ?_)
   refine ⟨(i + 1,out ++ [eB (-(l.getD i 0))],u + 1,SA),?hI5,?hM5,TB.head (fN 1) [SA,TA,TA,TA,TA,SA,TA,TA,SA,SA,SA] ?hT5 ?hH5⟩
   case hT5 | hH5=>first | (simp (disch:=omega) only [pD,IB,lB,XA,clean1,JB,reduceIte,iS,iA,iN,YB,kA,KA,LA];done) | rfl
   ·dsimp only;refine ⟨hlt,by rw [enx,ho,List.map_append];rfl,by cases out <;> rfl⟩
   ·dsimp only;omega
  | false =>
   rw [hb,if_neg (by simp)] at enx
   rw [hb] at hmg
   repeat (first | (with_reducible first | refine W8 ?_ | refine VA rfl ?_) | ((with_reducible refine X8 fun K hK=>?_);simp (disch:=first | omega | simp only [sB];omega) only [qB,reduceIte,reduceCtorEq,iT,nA,nS,nM,iA,iS,iM,iN,fU,fR,fBo,hrg,hmg];subst hK))
   refine ⟨(i + 1,out ++ [eB (l.getD i 0)],u + 1,SA),?hI6,?hM6,TB.head (fN 1) [SA,TA,TA,TA,TA,SA,TA,TA,SA,SA,SA] ?hT6 ?hH6⟩
   case hT6 | hH6=>first | (simp (disch:=omega) only [pD,IB,lB,XA,clean1,JB,reduceIte,iS,iA,iN,YB,kA,KA,LA];done) | rfl
   ·dsimp only;refine ⟨hlt,by rw [enx,ho,List.map_append];rfl,by cases out <;> rfl⟩
   ·dsimp only;omega
theorem turn_O (n m:Int) (ms:List Bool) (bt:CV) (st bu:Int) (wk:CV) (l:List Rat) (L:Nat) (hl:l.length <= ms.length) (hm:ms.length <= 1000) (hlf:∀ q ∈ l,SB q L) (hL:L <= 9000000) (v vb uc:Nat) (nb nc:Bool) (is:List Int) (cs:List VV) (P0 P1 P2:Blk) (h0:aK P0) (h1:aK P1) (h2:aK P2) :
  DE Tryz.prog 65 [aT v,aV (aQ l)] [P0,P1,P2,⟨v,113,9,[[.c (.val (.int .i64 n)),.c (.val (.int .i64 m)),.own 5 uc,.c bt,.c (NR ms),.own 4 vb,.c (.val (.int .i64 st)),.c (.val (.int .i64 bu)),.c wk]],SA,SA⟩,⟨vb,3,1,wB fI is,SA,nb⟩,⟨uc,23,1,wB fM cs,SA,nc⟩]
   (aV (aQ (kE ms l l.length))) [P0,P1,P2,⟨v,113,9,[[.c (.val (.int .i64 n)),.c (.val (.int .i64 m)),.own 5 uc,.c bt,.c (NR ms),.own 4 vb,.c (.val (.int .i64 st)),.c (.val (.int .i64 bu)),.c wk]],SA,SA⟩,⟨vb,3,1,wB fI is,SA,nb⟩,⟨uc,23,1,wB fM cs,SA,nc⟩]:=by
 have hob:UA (aC ms) = ms:=WB _
 have hrl:=nD l
 unfold aK at h0 h1 h2
 unfold NR
 refine uF (rs:=[(RV.tmp 4)]) Tryz.func65 (fun a w=>Tryz.call65 a w) body65 cc65 (by kernel_rfl) ?_
 rw [Tryz.ntmps65]
 simp only [pC,nA,nS]
 repeat (first | (with_reducible first | refine W8 ?_ | refine VA rfl ?_) | ((with_reducible refine X8 fun K hK=>?_);simp (disch:=first | omega | simp only [sB];omega) only [qB,reduceIte,reduceCtorEq,iT,nA,nS,nM,iA,iS,iM,iN,fU];subst hK))
 refine uD.fgt ?_ (TB.openNil (i:=5) rfl 48 3)
 simp only [lA,mA,pA,oA,qA,rA,nA]
 refine xB (fun (zz:Nat × (List RR) × Nat × Bool)=>⟨(aT v :: J4 (.one (.own 6 zz.2.2.1) :: .junk :: .junk :: aV (aQ l) :: aI l.length :: aI zz.1 :: L8 (.junk :: .junk :: .junk :: []))),[P0,P1,P2,⟨v,113,9,[[.c (.val (.int .i64 n)),.c (.val (.int .i64 m)),.own 5 uc,.c bt,.c (jB 1 fBo (aC ms)),.own 4 vb,.c (.val (.int .i64 st)),.c (.val (.int .i64 bu)),.c wk]],SA,SA⟩,⟨vb,3,1,wB fI is,SA,nb⟩,⟨uc,23,1,wB fM cs,SA,nc⟩,⟨zz.2.2.1,48,3,wB fR zz.2.1,SA,zz.2.2.2⟩]⟩) (fun (zz:Nat × (List RR) × Nat × Bool)=>zz.1 <= l.length /\ zz.2.1 = (kE ms l zz.1).map eB /\ zz.2.2.2 = !zz.2.1.isEmpty) (fun (zz:Nat × (List RR) × Nat × Bool)=>l.length - zz.1) (0,[],0,TA) ?hI7 (TB.head (show _ <= 7 from Nat.le_of_ble_eq_true rfl) [SA,TA,TA,TA,TA,SA,TA,TA,SA,SA,SA] ?hT7 ?hH7) ?hB7
 case hT7 | hH7=>first | (simp (disch:=omega) only [pD,IB,lB,XA,clean1,JB,reduceIte,iS,iA,iN,CE,hrl,h0,h1,h2];done) | rfl
 ·dsimp only;exact ⟨fN _,rfl,rfl⟩
 rintro ⟨i,out,u,nn⟩ ⟨hi,ho,hnn⟩
 dsimp only at hi ho hnn
 by_cases him:i = l.length
 ·refine uD.fgt ?_ (TB.closeO (i:=5) rfl rfl (by decide) hnn)
  rw [oC]
  simp only [lA,mA,YH,EB,nB,nA,IA,if_true,if_false,reduceIte]
  refine uD.fgt ?hA8 (TB.head (t':=(aT v :: J4 (aV (aC out) :: .junk :: .junk :: .junk :: aI l.length :: aI i :: L8 (.junk :: .junk :: .junk :: [])))) (h':=[P0,P1,P2,⟨v,113,9,[[.c (.val (.int .i64 n)),.c (.val (.int .i64 m)),.own 5 uc,.c bt,.c (jB 1 fBo (aC ms)),.own 4 vb,.c (.val (.int .i64 st)),.c (.val (.int .i64 bu)),.c wk]],SA,SA⟩,⟨vb,3,1,wB fI is,SA,nb⟩,⟨uc,23,1,wB fM cs,SA,nc⟩]) (show _ <= 6 from Nat.le_of_ble_eq_true rfl) [SA,TA,TA,TA,TA,SA,TA,TA,TA,SA,SA] ?hT8 ?hH8)
  case hT8 | hH8=>first | (simp (disch:=omega) only [pD,IB,lB,XA,clean1,JB,reduceIte,iS,iA,iN,h0,h1,h2];done) | rfl
  rw [him] at ho
  subst ho
  repeat (first | (with_reducible first | refine W8 ?_ | refine VA rfl ?_) | ((with_reducible refine X8 fun K hK=>?_);simp (disch:=first | omega | simp only [sB];omega) only [qB,reduceIte,reduceCtorEq,iT,nA,nS,nM,iA,iS,iM,iN,fU];subst hK))
  exact ⟨rfl,rfl⟩
 ·have hlt:i < l.length:=by omega
  have hl1:i < (UA (aQ l)).length:=by omega
  have hrg:=IK hl1
  have hm1:i < (UA (aC ms)).length:=by rw [hob];omega
  have hmg:(UA (aC ms))[i] = ms.getD i TA:=by rw [List.getElem_of_eq hob,bA,aA (by omega)];rfl
  have hol:out.length = i:=by rw [ho,eA,lP]
  have hng:=FT (eB (l.getD i 0)) (QB ((hlf _ (by rw [bA,aA hlt];exact gA _)).mono hL))
  rw [rawQ_val] at hng
  have enx:=ON ms l i
  cases hb:ms.getD i TA with
  | true =>
   rw [hb,if_pos rfl] at enx
   rw [hb] at hmg
   repeat (first | (with_reducible first | refine W8 ?_ | refine VA rfl ?_) | ((with_reducible refine X8 fun K hK=>?_);simp (disch:=first | omega | simp only [sB];omega) only [qB,reduceIte,reduceCtorEq,iT,nA,nS,nM,iA,iS,iM,iN,fU,fR,fBo,hrg,hmg];subst hK) | refine KB (hng) rfl rfl rfl ?_)
   refine ⟨(i + 1,out ++ [eB (-(l.getD i 0))],u + 1,SA),?hI9,?hM9,TB.head (show _ <= 7 from Nat.le_of_ble_eq_true rfl) [SA,TA,TA,TA,TA,SA,TA,TA,SA,SA,SA] ?hT9 ?hH9⟩
   case hT9 | hH9=>first | (simp (disch:=omega) only [pD,IB,lB,XA,clean1,JB,reduceIte,iS,iA,iN,YB,kA,KA,LA,h0,h1,h2];done) | rfl
   ·dsimp only;refine ⟨hlt,by rw [enx,ho,List.map_append];rfl,by cases out <;> rfl⟩
   ·dsimp only;omega
  | false =>
   rw [hb,if_neg (by simp)] at enx
   rw [hb] at hmg
   repeat (first | (with_reducible first | refine W8 ?_ | refine VA rfl ?_) | ((with_reducible refine X8 fun K hK=>?_);simp (disch:=first | omega | simp only [sB];omega) only [qB,reduceIte,reduceCtorEq,iT,nA,nS,nM,iA,iS,iM,iN,fU,fR,fBo,hrg,hmg];subst hK))
   refine ⟨(i + 1,out ++ [eB (l.getD i 0)],u + 1,SA),?hI10,?hM10,TB.head (show _ <= 7 from Nat.le_of_ble_eq_true rfl) [SA,TA,TA,TA,TA,SA,TA,TA,SA,SA,SA] ?hT10 ?hH10⟩
   case hT10 | hH10=>first | (simp (disch:=omega) only [pD,IB,lB,XA,clean1,JB,reduceIte,iS,iA,iN,YB,kA,KA,LA,h0,h1,h2];done) | rfl
   ·dsimp only;refine ⟨hlt,by rw [enx,ho,List.map_append];rfl,by cases out <;> rfl⟩
   ·dsimp only;omega
def GC (p:PB):PF:=⟨(UA p.A).length,(UA p.C).length,fun i k=>jE (RJ p.A i) k,fun i=>jE p.B i,fun k=>jE p.C k⟩
abbrev qF (p:PB):SD:=qC (GC p)
def jL (p:PB) (i:Nat):List Bool:=(List.range i).map fun j=>decide (jE p.B j < 0)
def bTo (p:PB) (i:Nat):List Rat:=(List.range i).map fun j=>rF (GC p) j (jE p.B j)
def bsTo (p:PB) (i:Nat):List Nat:=(List.range i).map fun j=>(UA p.C).length + j
def bR (p:PB) (k:Nat):QM:=(List.range k).map fun j=>(List.range (UA p.A).length).map fun i=>rF (GC p) i (jE (RJ p.A i) j)
abbrev bI (p:PB):List Bool:=jL p (UA p.A).length
theorem minTo_succ (p:PB) (i:Nat):jL p (i + 1) = jL p i ++ [decide (jE p.B i < 0)]:=by unfold jL;rw [List.range_succ,List.map_append];rfl
theorem bTo_succ (p:PB) (i:Nat):bTo p (i + 1) = bTo p i ++ [rF (GC p) i (jE p.B i)]:=by unfold bTo;rw [List.range_succ,List.map_append];rfl
theorem bsTo_succ (p:PB) (i:Nat):bsTo p (i + 1) = bsTo p i ++ [(UA p.C).length + i]:=by unfold bsTo;rw [List.range_succ,List.map_append];rfl
theorem colsTo_succ (p:PB) (i:Nat):bR p (i + 1) = bR p i ++ [(List.range (UA p.A).length).map fun j=>rF (GC p) j (jE (RJ p.A j) i)]:=by unfold bR;rw [List.range_succ,List.map_append];rfl
theorem turn_col (p:PB) (k:Nat):kE (bI p) (ZI p k (UA p.A).length) (ZI p k (UA p.A).length).length = (List.range (UA p.A).length).map fun i=>rF (GC p) i (jE (RJ p.A i) k):=by
 unfold kE
 rw [AN]
 refine wA (fun i hi=>?_)
 have hi':=zA.1 hi
 have e1:(bI p).getD i TA = decide (jE p.B i < 0):=dD _ _ i TA hi'
 have e2:(ZI p k (UA p.A).length).getD i 0 = jE (RJ p.A i) k:=dD _ _ i 0 hi'
 rw [e1,e2]
 unfold rF
 show (if decide (jE p.B i < 0) = SA then _ else _) = if jE p.B i < 0 then _ else _
 by_cases h:jE p.B i < 0
 ·rw [if_pos h,decide_eq_true h,if_pos rfl]
 ·rw [if_neg h,decide_eq_false h,if_neg (by simp)]
theorem xF {α:Type} (l:List α):l.isEmpty = decide (l.length = 0):=by cases l <;> rfl
theorem sgn_low3 (r:RR):(dE r.top < 0) ↔ r.val < 0:=by
 have:=I1 r
 unfold UY at this
 rw [decide_eq_decide] at this
 exact this
abbrev c63_k1:CC:=(.seq (.reg [(mV 95 5),(mV 4 95)]) .ret)
abbrev c63_b1:CC:=(.seq (.reg [(bB 78 .lss 77 76)]) (.seq (.cond (tP 78) .skip (.exit 2)) (.seq (.block 3 (.seq (.reg [(mV 79 77),(mV 9 79)]) (.reg [(mV 80 5),(mV 81 5),(fA 82 0 81),(fA 83 2 82),(lF 84 1 83),(mV 85 5),(lT 86 3 2),(mV 87 9),(oD 88 (.callf (.func 107) [(tP 86),(tP 87)])),(oD 89 (.callf (.func 65) [(tP 85),(tP 88)])),(oD 90 (.mkrow 23 1 [(tP 89)])),(oD 91 (.append 23 1 24 (tP 84) (tP 90))),(fA 92 0 80),(fA 93 2 92),(sT 1 93 91)]))) (.reg [(bC 94 .add 77 1),(mV 77 94)]))))
abbrev c63_k2:CC:=(.seq (.seq (.reg [(mV 73 5),(fA 74 0 73),(fA 75 0 74),(lF 76 1 75),(mI 77 0)]) (.block 2 (.loop c63_b1))) c63_k1)
abbrev c63_b2:CC:=(.seq (.reg [(bB 23 .lss 22 21)]) (.seq (.cond (tP 23) .skip (.exit 0)) (.seq (.block 1 (.seq (.reg [(mV 24 22),(xA 25 3 20 22),(lT 26 3 25),(oD 7 (.new 48 [(.bool TA),(.slice QA 0 0),(.slice QA 0 0)])),(mV 6 24),(sT 3 7 26)]) (.seq (.reg [(lT 27 3 7),(oD 28 (.callf (.func 27) [(tP 27)])),(bC 29 .lss 28 0),(mV 8 29)]) (.seq (.seq (.reg [(mV 30 8)]) (.cond (tP 30) (.reg [(lT 31 3 7),(oD 32 (.callf (.func 106) [(tP 31)])),(sT 3 7 32)]) .skip)) (.regn TA [(mV 33 5),(mV 34 5),(mV 35 5),(mV 36 5),(fA 37 0 36),(fA 38 4 37),(lF 39 1 38),(mV 40 8),(oD 41 (.mkrowc 1 [(tP 40)])),(oD 42 (.append 4 1 1 (tP 39) (tP 41))),(mV 43 5),(fA 44 0 43),(fA 45 3 44),(lF 46 1 45),(fA 47 0 7),(lT 48 2 47),(fA 49 2 7),(lF 50 1 49),(oD 51 (.callf (.func 45) [(tP 48),(tP 50)])),(oD 52 (.mkrowc 3 [(tP 51)])),(oD 53 (.append 48 3 56 (tP 46) (tP 52))),(mV 54 5),(fA 55 0 54),(fA 56 5 55),(lF 57 1 56),(mV 58 5),(fA 59 0 58),(fA 60 0 59),(lF 61 1 60),(mV 62 6),(bB 63 .add 61 62),(oD 64 (.mkrowc 1 [(tP 63)])),(oD 65 (.append 3 1 8 (tP 57) (tP 64))),(fA 66 0 33),(fA 67 4 66),(sT 1 67 42),(fA 68 0 34),(fA 69 3 68),(sT 1 69 53),(fA 70 0 35),(fA 71 5 70),(sT 1 71 65)]))))) (.reg [(bC 72 .add 22 1),(mV 22 72)]))))
abbrev c63:CC:=(.seq (.reg [(oD 2 (.box 34 (tP 0))),(oD 4 (.mv (.const (.pointer QA))))]) (.seq (.reg [(fA 10 2 2),(lF 11 1 10),(nL 12 11),(fA 13 0 2),(lF 14 1 13),(nL 15 14),(mV 16 1),(oD 17 (.build [(.int .i64 (0)),(.int .i64 (0)),(.slice QA 0 0),(.slice QA 0 0),(.slice QA 0 0),(.slice QA 0 0),(.int .i64 (0)),(.int .i64 (0)),(.slice QA 0 0)] [(0,(1,(tP 12))),(1,(1,(tP 15))),(7,(1,(tP 16)))])),(oD 18 (.box 113 (tP 17))),(mV 5 18)]) (.seq (.seq (.reg [(fA 19 1 2),(lF 20 1 19),(nL 21 20),(mI 22 0)]) (.block 0 (.loop c63_b2))) c63_k2)))
theorem cc63:ZA Tryz.prog [1000065] (Tryz.f63.body.getD .skip) = PA c63:=by kernel_rfl
theorem body63:Tryz.f63.body = PA (Tryz.f63.body.getD .skip):=rfl
theorem start_O (p:PB) (L:Nat) (hp:AD p = SA) (hf:LG p.A 5000 L) (hB:vC p.B 5000 L) (hL:1 <= L) (hL2:L <= 1000000) (bu:Int) (P0 P1:Blk) (h0:aK P0) (h1:aK P1) :
  DE Tryz.prog 63 [aP p,aI bu] [P0,P1] (aT 0) [P0,P1,⟨0,34,3,[[.c (jB 1 fM p.A),.c (vr p.B),.c (vr p.C)]],SA,SA⟩,tB (qF p) 0 (NR (bI p)) (.own 4 (UA p.A).length) 0 bu (.val (.slice QA 0 0)),⟨(UA p.A).length,3,1,wB fI (MB (cE (GC p))),SA,!(MB (cE (GC p))).isEmpty⟩]:=by
 obtain ⟨l1,l2,l3,l4⟩:=qG hp
 have q0:=h0
 have q1:=h1
 unfold aK at q0 q1
 unfold tB
 refine uF (rs:=[(RV.tmp 4)]) Tryz.func63 (fun a w=>Tryz.call63 a w) body63 cc63 (by kernel_rfl) ?_
 rw [Tryz.ntmps63]
 simp only [pC,nA,nS]
 repeat (first | (with_reducible first | refine W8 ?_ | refine VA rfl ?_) | ((with_reducible refine X8 fun K hK=>?_);simp (disch:=first | omega | simp only [sB];omega) only [qB,reduceIte,reduceCtorEq,iT,nA,nS,nM,iA,iS,iM,iN,fU];subst hK))
 refine uD.fgt ?_ (TB.phantom _ 3 1)
 refine uD.fgt ?_ (TB.phantom _ 4 1)
 refine uD.fgt ?_ (TB.phantom _ 48 3)
 refine uD.fgt ?_ (TB.cellsOpen (b:=3) (els':=[[.c (.val (.int .i64 ((UA p.C).length:Int))),.c (.val (.int .i64 ((UA p.A).length:Int))),.c (.val (.slice QA 0 0)),.own 6 0,.own 5 0,.own 4 0,.c (.val (.int .i64 0)),.c (.val (.int .i64 bu)),.c (.val (.slice QA 0 0))]]) rfl (.cons (.cons (.inl rfl) (.cons (.inl rfl) (.cons (.inl rfl) (.cons (.inr ⟨rfl,6,_,rfl,rfl,rfl⟩) (.cons (.inr ⟨rfl,5,_,rfl,rfl,rfl⟩) (.cons (.inr ⟨rfl,4,_,rfl,rfl,rfl⟩) (.cons (.inl rfl) (.cons (.inl rfl) (.cons (.inl rfl) .nil))))))))) .nil))
 simp only [rA,qA,lA,mA]
 refine xB (fun (zz:Nat × (List Int) × (List Bool) × (List RR) × Bool)=>⟨(.junk :: aI bu :: .one (.ptr 2 0 0 0) :: .junk :: .junk :: aT 0 :: J8 (J4 (.junk :: .junk :: aV p.B :: aI (UA p.B).length :: aI zz.1 :: K8 (K8 (J8 (.junk :: [])))))),[P0,P1,⟨0,34,3,[[.c (jB 1 fM p.A),.c (vr p.B),.c (vr p.C)]],SA,SA⟩,⟨0,113,9,[[.c (.val (.int .i64 ((UA p.C).length:Int))),.c (.val (.int .i64 ((UA p.A).length:Int))),.c (.val (.slice QA 0 0)),.own 6 zz.1,.own 5 zz.1,.own 4 zz.1,.c (.val (.int .i64 0)),.c (.val (.int .i64 bu)),.c (.val (.slice QA 0 0))]],SA,SA⟩,⟨zz.1,3,1,wB fI zz.2.1,SA,zz.2.2.2.2⟩,⟨zz.1,4,1,wB fBo zz.2.2.1,SA,zz.2.2.2.2⟩,⟨zz.1,48,3,wB fR zz.2.2.2.1,SA,zz.2.2.2.2⟩]⟩) (fun (zz:Nat × (List Int) × (List Bool) × (List RR) × Bool)=>zz.1 <= (UA p.A).length /\ zz.2.1 = MB (bsTo p zz.1) /\ zz.2.2.1 = jL p zz.1 /\ zz.2.2.2.1 = (bTo p zz.1).map eB /\ zz.2.2.2.2 = !decide (zz.1 = 0)) (fun (zz:Nat × (List Int) × (List Bool) × (List RR) × Bool)=>(UA p.A).length - zz.1) (0,[],[],[],TA) ?hI1 (TB.head (show _ <= 7 from Nat.le_of_ble_eq_true rfl) [TA,SA,SA,TA,TA,SA,TA,TA,TA,TA,TA,TA,TA,TA,TA,TA,TA,TA,TA,TA,SA,SA,SA] ?hT1 ?hH1) ?hB1
 case hT1 | hH1=>first | (simp (disch:=omega) only [pD,IB,lB,XA,clean1,JB,reduceIte,iS,iA,iN,q0,q1,CE];done) | rfl
 ·dsimp only;exact ⟨fN _,rfl,rfl,rfl,rfl⟩
 rintro ⟨i,is,ms,bs,nn⟩ ⟨hi,his,hms,hbs,hnn⟩
 dsimp only at hi his hms hbs hnn
 have hisl:is.length = i:=by rw [his,eC];unfold bsTo;rw [eA,List.length_range]
 have hmsl:ms.length = i:=by rw [hms];unfold jL;rw [eA,List.length_range]
 have hbsl:bs.length = i:=by rw [hbs,eA];unfold bTo;rw [eA,List.length_range]
 by_cases him:i = (UA p.A).length
 ·have n1:nn = !ms.isEmpty:=by rw [hnn,xF,hmsl]
  have n2:nn = !bs.isEmpty:=by rw [hnn,xF,hbsl]
  have n3:nn = !is.isEmpty:=by rw [hnn,xF,hisl]
  refine uD.fgt ?_ (TB.cells (b:=3) (els':=[[.c (.val (.int .i64 ((UA p.C).length:Int))),.c (.val (.int .i64 ((UA p.A).length:Int))),.c (.val (.slice QA 0 0)),.c (jB 3 fR (aC bs)),.c (jB 1 fBo (aC ms)),.own 4 i,.c (.val (.int .i64 0)),.c (.val (.int .i64 bu)),.c (.val (.slice QA 0 0))]]) [5,6] rfl rfl (.cons (.cons (.inl rfl) (.cons (.inl rfl) (.cons (.inl rfl) (.cons ((JG (c:=6) rfl (by decide) n2 (by simp)).2 0 _ _ rfl rfl) (.cons ((JG (c:=5) rfl (by decide) n1 (by simp)).2 0 _ _ rfl rfl) (.cons (.inl rfl) (.cons (.inl rfl) (.cons (.inl rfl) (.cons (.inl rfl) .nil))))))))) .nil))
  rw [oC]
  simp only [lA,mA,YH,EB,nB,nA,IA,if_true,if_false,reduceIte]
  refine uD.fgt ?hA2 (TB.head (t':=(.junk :: aI bu :: .one (.ptr 2 0 0 0) :: .junk :: .junk :: aT 0 :: J8 (J4 (.junk :: .junk :: aV p.B :: aI (UA p.B).length :: aI i :: K8 (K8 (J8 (.junk :: []))))))) (h':=[P0,P1,⟨0,34,3,[[.c (jB 1 fM p.A),.c (vr p.B),.c (vr p.C)]],SA,SA⟩,⟨0,113,9,[[.c (.val (.int .i64 ((UA p.C).length:Int))),.c (.val (.int .i64 ((UA p.A).length:Int))),.c (.val (.slice QA 0 0)),.c (jB 3 fR (aC bs)),.c (jB 1 fBo (aC ms)),.own 4 i,.c (.val (.int .i64 0)),.c (.val (.int .i64 bu)),.c (.val (.slice QA 0 0))]],SA,SA⟩,⟨i,3,1,wB fI is,SA,nn⟩]) (show _ <= 5 from Nat.le_of_ble_eq_true rfl) [TA,SA,SA,TA,TA,SA,TA,TA,TA,TA,TA,TA,TA,TA,TA,TA,TA,TA,TA,TA,SA,SA,SA] ?hT2 ?hH2)
  case hT2 | hH2=>first | (simp (disch:=omega) only [pD,IB,lB,XA,clean1,JB,reduceIte,iS,iA,iN,q0,q1];done) | rfl
  have hbs':aC bs = aQ (qF p).b:=by rw [hbs,him];rfl
  have his':is = MB (cE (GC p)):=by rw [his,him];rfl
  have hms':ms = bI p:=by rw [hms,him]
  have hib:i = (UA p.B).length:=by omega
  rw [hbs',hms',hib]
  have hnc:nn = !(MB (cE (GC p))).isEmpty:=by rw [n3,his']
  rw [his']
  clear hbs' hbs hbsl n2 n1 n3 his hms hisl hmsl hnn
  repeat (first | (with_reducible first | refine W8 ?_ | refine VA rfl ?_) | ((with_reducible refine X8 fun K hK=>?_);simp (disch:=first | omega | simp only [sB];omega) only [qB,reduceIte,reduceCtorEq,iT,nA,nS,nM,iA,iS,iM,iN,fU];subst hK))
  rw [l3]
  refine uD.fgt ?_ (TB.phantom _ 23 1)
  refine uD.fgt ?_ (TB.cellsOpen (b:=3) (els':=[[.c (.val (.int .i64 ((UA p.C).length:Int))),.c (.val (.int .i64 ((UA p.A).length:Int))),.own 5 0,.c (vr (aQ (qF p).b)),.c (NR (bI p)),.own 4 (UA p.A).length,.c (.val (.int .i64 0)),.c (.val (.int .i64 bu)),.c (.val (.slice QA 0 0))]]) rfl (.cons (.cons (.inl rfl) (.cons (.inl rfl) (.cons (.inr ⟨rfl,5,_,rfl,rfl,rfl⟩) (.cons (.inl rfl) (.cons (.inl rfl) (.cons (.inl rfl) (.cons (.inl rfl) (.cons (.inl rfl) (.cons (.inl rfl) .nil))))))))) .nil))
  simp only [rA,qA,lA,mA]
  refine xB (fun (zz:Nat × (List VV) × Bool)=>⟨(.junk :: aI bu :: .one (.ptr 2 0 0 0) :: .junk :: .junk :: aT 0 :: K8 (K8 (J4 (.junk :: .junk :: aI (UA p.C).length :: aI zz.1 :: L8 (.junk :: .junk :: []))))),[P0,P1,⟨0,34,3,[[.c (jB 1 fM p.A),.c (vr p.B),.c (vr p.C)]],SA,SA⟩,⟨0,113,9,[[.c (.val (.int .i64 ((UA p.C).length:Int))),.c (.val (.int .i64 ((UA p.A).length:Int))),.own 5 zz.1,.c (vr (aQ (qF p).b)),.c (NR (bI p)),.own 4 (UA p.A).length,.c (.val (.int .i64 0)),.c (.val (.int .i64 bu)),.c (.val (.slice QA 0 0))]],SA,SA⟩,⟨(UA p.A).length,3,1,wB fI (MB (cE (GC p))),SA,nn⟩,⟨zz.1,23,1,wB fM zz.2.1,SA,zz.2.2⟩]⟩) (fun (zz:Nat × (List VV) × Bool)=>zz.1 <= (UA p.C).length /\ zz.2.1 = (bR p zz.1).map aQ /\ zz.2.2 = !zz.2.1.isEmpty) (fun (zz:Nat × (List VV) × Bool)=>(UA p.C).length - zz.1) (0,[],TA) ?hI3 (TB.head (show _ <= 6 from Nat.le_of_ble_eq_true rfl) (TA :: SA :: SA :: TA :: TA :: SA :: M8 (M8 (F4 (TA :: TA :: SA :: SA :: [])))) ?hT3 ?hH3) ?hB3
  case hT3 | hH3=>first | (simp (disch:=omega) only [pD,IB,lB,XA,clean1,JB,reduceIte,iS,iA,iN,q0,q1,CE];done) | rfl
  ·dsimp only;exact ⟨fN _,rfl,rfl⟩
  rintro ⟨k,cs,nc⟩ ⟨hk,hcs,hcn⟩
  dsimp only at hk hcs hcn
  have hcsl:cs.length = k:=by rw [hcs,eA];unfold bR;rw [eA,List.length_range]
  by_cases hkn:k = (UA p.C).length
  ·refine uD.fgt ?_ (TB.cells (b:=3) (els':=[[.c (.val (.int .i64 ((UA p.C).length:Int))),.c (.val (.int .i64 ((UA p.A).length:Int))),.c (jB 1 fM (aC cs)),.c (vr (aQ (qF p).b)),.c (NR (bI p)),.own 4 (UA p.A).length,.c (.val (.int .i64 0)),.c (.val (.int .i64 bu)),.c (.val (.slice QA 0 0))]]) [5] rfl rfl (.cons (.cons (.inl rfl) (.cons (.inl rfl) (.cons ((JG (c:=5) rfl (by decide) hcn (by simp)).2 0 _ _ rfl rfl) (.cons (.inl rfl) (.cons (.inl rfl) (.cons (.inl rfl) (.cons (.inl rfl) (.cons (.inl rfl) (.cons (.inl rfl) .nil))))))))) .nil))
   rw [oC]
   simp only [lA,mA,YH,EB,nB,nA,IA,if_true,if_false,reduceIte]
   refine uD.fgt ?hA4 (TB.head (t':=(J4 (.junk :: aT 0 :: K8 (K8 (J4 (.junk :: .junk :: aI (UA p.C).length :: aI k :: L8 (.junk :: .junk :: []))))))) (h':=[P0,P1,⟨0,34,3,[[.c (jB 1 fM p.A),.c (vr p.B),.c (vr p.C)]],SA,SA⟩,⟨0,113,9,[[.c (.val (.int .i64 ((UA p.C).length:Int))),.c (.val (.int .i64 ((UA p.A).length:Int))),.c (jB 1 fM (aC cs)),.c (vr (aQ (qF p).b)),.c (NR (bI p)),.own 4 (UA p.A).length,.c (.val (.int .i64 0)),.c (.val (.int .i64 bu)),.c (.val (.slice QA 0 0))]],SA,SA⟩,⟨(UA p.A).length,3,1,wB fI (MB (cE (GC p))),SA,nn⟩]) (show _ <= 5 from Nat.le_of_ble_eq_true rfl) (F4 (TA :: SA :: M8 (M8 (F4 (TA :: TA :: SA :: SA :: []))))) ?hT4 ?hH4)
   case hT4 | hH4=>first | (simp (disch:=omega) only [pD,IB,lB,XA,clean1,JB,reduceIte,iS,iA,iN,q0,q1];done) | rfl
   have hcs':aC cs = TD (qF p):=by rw [hcs,hkn];rfl
   rw [hcs',hnc]
   repeat (first | (with_reducible first | refine W8 ?_ | refine VA rfl ?_) | ((with_reducible refine X8 fun K hK=>?_);simp (disch:=first | omega | simp only [sB];omega) only [qB,reduceIte,reduceCtorEq,iT,nA,nS,nM,iA,iS,iM,iN,fU];subst hK))
   exact ⟨rfl,rfl⟩
  ·have hkl:k < (UA p.C).length:=by omega
   have hcol:=col_yes p k 5000 L hf hL2 hp hkl
   change YA _ _ _ (.ret (aV (aQ (ZI p k (UA p.A).length)))) at hcol
   have hmn:(bI p).length = (UA p.A).length:=by show (List.map _ _).length = _;rw [eA,List.length_range]
   have htn:=turn_O (UA p.C).length (UA p.A).length (bI p) (vr (aQ (qF p).b)) 0 bu (.val (.slice QA 0 0)) (ZI p k (UA p.A).length) L (by rw [AN,hmn];exact EA _) (by omega) (fun q hq=>by
    unfold ZI at hq
    obtain ⟨j,hj,rfl⟩:=yA.1 hq
    exact ((hf.at j).at k).val hL) (by omega) 0 (UA p.A).length k nn nc (MB (cE (GC p))) cs P0 P1 ⟨0,34,3,[[.c (jB 1 fM p.A),.c (vr p.B),.c (vr p.C)]],SA,SA⟩ h0 h1 (fun n=>rfl)
   rw [turn_col] at htn
   have hsn:∀ r:VV,wB fM cs ++ [[Cell.c (vr r)]] = wB fM (cs ++ [r]):=fun r=>by rw [<- XC];rfl
   have hcn2:=colsTo_succ p k
   generalize ((List.range (UA p.A).length).map fun i=>rF (GC p) i (jE (RJ p.A i) k)) = nw at htn hcn2
   repeat (first | (with_reducible first | refine W8 ?_ | refine VA rfl ?_) | ((with_reducible refine X8 fun K hK=>?_);simp (disch:=first | omega | simp only [sB];omega) only [qB,reduceIte,reduceCtorEq,iT,nA,nS,nM,iA,iS,iM,iN,fU,hsn];subst hK) | refine KB (hcol) rfl rfl rfl ?_ | (apply bD (htn) rfl rfl))
   refine ⟨(k + 1,cs ++ [aQ nw],SA),?hI5,?hM5,TB.head (show _ <= 6 from Nat.le_of_ble_eq_true rfl) (TA :: SA :: SA :: TA :: TA :: SA :: M8 (M8 (F4 (TA :: TA :: SA :: SA :: [])))) ?hT5 ?hH5⟩
   case hT5 | hH5=>first | (simp (disch:=omega) only [pD,IB,lB,XA,clean1,JB,reduceIte,iS,iA,iN,q0,q1,kA,KA,LA];done) | rfl
   ·dsimp only
    refine ⟨by omega,by rw [hcn2,hcs,List.map_append];rfl,by cases cs <;> rfl⟩
   ·dsimp only;omega
 ·have hlt:i < (UA p.B).length:=by omega
  have hfb:=hB.2 _ (gA hlt)
  have hqb:jE p.B i = (UA p.B)[i].val:=by unfold jE;rw [fE hlt]
  have hsg:=BG (UA p.B)[i] (hfb.mono (by omega))
  have hsl:=sgn_low3 (UA p.B)[i]
  have hmi:=minTo_succ p i
  have hbi:=bTo_succ p i
  have hsi:=bsTo_succ p i
  have hci:(((UA p.C).length:Int)) + (i:Int) = (((UA p.C).length + i:Nat):Int):=by omega
  have hI1:∀ z:Int,wB fI is ++ [[Cell.c (.val (.int .i64 z))]] = wB fI (is ++ [z]):=fun z=>by rw [<- XC];rfl
  have hM1:∀ z:Bool,wB fBo ms ++ [[Cell.c (.val (.bool z))]] = wB fBo (ms ++ [z]):=fun z=>by rw [<- XC];rfl
  rw [hqb] at hmi hbi
  unfold rF at hbi
  rw [show (GC p).b i = (UA p.B)[i].val from hqb] at hbi
  generalize dE (UA p.B)[i].top = z at hsg hsl
  by_cases hz:z < 0
  ·have hv:=hsl.1 hz
   have hng:=FT (UA p.B)[i] (hfb.mono (by omega))
   have fn:SB (-(UA p.B)[i].val) L:=(hfb.val hL).neg
   have hmk:=make_C (eB (-(UA p.B)[i].val)) L (QB fn) hL2
   rw [rawQ_val] at hmk
   rw [decide_eq_true hv] at hmi
   rw [if_pos hv] at hbi
   repeat (first | (with_reducible first | refine W8 ?_ | refine VA rfl ?_) | ((with_reducible refine X8 fun K hK=>?_);simp (disch:=first | omega | simp only [sB];omega) only [qB,reduceIte,reduceCtorEq,iT,nA,nS,nM,iA,iS,iM,iN,fU,fR,hci,hI1,hM1];subst hK) | refine KB (hsg) rfl rfl rfl ?_ | refine KB (hng) rfl rfl rfl ?_ | refine KB (hmk) rfl rfl rfl ?_)
   refine ⟨(i + 1,is ++ [(((UA p.C).length + i:Nat):Int)],ms ++ [SA],bs ++ [eB (-(UA p.B)[i].val)],SA),?hI6,?hM6,TB.head (show _ <= 7 from Nat.le_of_ble_eq_true rfl) [TA,SA,SA,TA,TA,SA,TA,TA,TA,TA,TA,TA,TA,TA,TA,TA,TA,TA,TA,TA,SA,SA,SA] ?hT6 ?hH6⟩
   case hT6 | hH6=>first | (simp (disch:=omega) only [pD,IB,lB,XA,clean1,JB,reduceIte,iS,iA,iN,q0,q1,YB,kA,KA,LA];done) | rfl
   ·dsimp only
    refine ⟨by omega,?_,by rw [hmi,hms],by rw [hbi,hbs,List.map_append];rfl,by simp⟩
    rw [hsi,his];unfold MB;rw [List.map_append];rfl
   ·dsimp only;omega
  ·have hv:¬ (UA p.B)[i].val < 0:=fun h=>hz (hsl.2 h)
   have hmk:=make_C (UA p.B)[i] L hfb hL2
   rw [decide_eq_false hv] at hmi
   rw [if_neg hv] at hbi
   repeat (first | (with_reducible first | refine W8 ?_ | refine VA rfl ?_) | ((with_reducible refine X8 fun K hK=>?_);simp (disch:=first | omega | simp only [sB];omega) only [qB,reduceIte,reduceCtorEq,iT,nA,nS,nM,iA,iS,iM,iN,fU,fR,hci,hI1,hM1];subst hK) | refine KB (hsg) rfl rfl rfl ?_ | refine KB (hmk) rfl rfl rfl ?_)
   refine ⟨(i + 1,is ++ [(((UA p.C).length + i:Nat):Int)],ms ++ [TA],bs ++ [eB (UA p.B)[i].val],SA),?hI7,?hM7,TB.head (show _ <= 7 from Nat.le_of_ble_eq_true rfl) [TA,SA,SA,TA,TA,SA,TA,TA,TA,TA,TA,TA,TA,TA,TA,TA,TA,TA,TA,TA,SA,SA,SA] ?hT7 ?hH7⟩
   case hT7 | hH7=>first | (simp (disch:=omega) only [pD,IB,lB,XA,clean1,JB,reduceIte,iS,iA,iN,q0,q1,YB,kA,KA,LA];done) | rfl
   ·dsimp only
    refine ⟨by omega,?_,by rw [hmi,hms],by rw [hbi,hbs,List.map_append];rfl,by simp⟩
    rw [hsi,his];unfold MB;rw [List.map_append];rfl
   ·dsimp only;omega
abbrev c62:CC:=(.seq (.reg [(oD 2 (.box 34 (tP 0))),(mB 4 TA)]) (.seq (.reg [(lT 5 3 2),(oD 6 (.callf (.func 48) [(tP 5)])),(mV 7 6),(gM 8 7 SA 1),(oG 9 7 SA (.bin .geq (tP 8) (.const (.int .i64 (0))))),(pF 10 7 9),(mV 4 10)]) .ret))
theorem cc62:ZA Tryz.prog [] (Tryz.f62.body.getD .skip) = PA c62:=by kernel_rfl
theorem body62:Tryz.f62.body = PA (Tryz.f62.body.getD .skip):=rfl
theorem may_C (p:PB) (bu:Int):YA Tryz.prog 62 [aP p,aI bu] (.ret (aB (AD p && decide (0 <= bu)))):=by
 have hr:=eM p
 by_cases h:0 <= bu
 ·rw [decide_eq_true h]
  cases hb:AD p with
  | true =>
   rw [hb] at hr
   refine WA (rs:=[(RV.tmp 4)]) Tryz.func62 (fun a w=>Tryz.call62 a w) body62 cc62 (by kernel_rfl) ?_
   rw [Tryz.ntmps62]
   simp only [pC,nA,nS]
   repeat (first | (with_reducible first | refine W8 ?_ | refine VA rfl ?_) | ((with_reducible refine X8 fun K hK=>?_);simp (disch:=first | omega | simp only [sB];omega) only [qB,reduceIte,reduceCtorEq,iT,nA,nS,nM,iA,iS,iM,iN,fU];subst hK) | refine KB (hr) rfl rfl rfl ?_)
   exact ⟨_,rfl,rfl⟩
  | false =>
   rw [hb] at hr
   refine WA (rs:=[(RV.tmp 4)]) Tryz.func62 (fun a w=>Tryz.call62 a w) body62 cc62 (by kernel_rfl) ?_
   rw [Tryz.ntmps62]
   simp only [pC,nA,nS]
   repeat (first | (with_reducible first | refine W8 ?_ | refine VA rfl ?_) | ((with_reducible refine X8 fun K hK=>?_);simp (disch:=first | omega | simp only [sB];omega) only [qB,reduceIte,reduceCtorEq,iT,nA,nS,nM,iA,iS,iM,iN,fU];subst hK) | refine KB (hr) rfl rfl rfl ?_)
   exact ⟨_,rfl,rfl⟩
 ·rw [decide_eq_false h]
  cases hb:AD p with
  | true =>
   rw [hb] at hr
   refine WA (rs:=[(RV.tmp 4)]) Tryz.func62 (fun a w=>Tryz.call62 a w) body62 cc62 (by kernel_rfl) ?_
   rw [Tryz.ntmps62]
   simp only [pC,nA,nS]
   repeat (first | (with_reducible first | refine W8 ?_ | refine VA rfl ?_) | ((with_reducible refine X8 fun K hK=>?_);simp (disch:=first | omega | simp only [sB];omega) only [qB,reduceIte,reduceCtorEq,iT,nA,nS,nM,iA,iS,iM,iN,fU];subst hK) | refine KB (hr) rfl rfl rfl ?_)
   exact ⟨_,rfl,rfl⟩
  | false =>
   rw [hb] at hr
   refine WA (rs:=[(RV.tmp 4)]) Tryz.func62 (fun a w=>Tryz.call62 a w) body62 cc62 (by kernel_rfl) ?_
   rw [Tryz.ntmps62]
   simp only [pC,nA,nS]
   repeat (first | (with_reducible first | refine W8 ?_ | refine VA rfl ?_) | ((with_reducible refine X8 fun K hK=>?_);simp (disch:=first | omega | simp only [sB];omega) only [qB,reduceIte,reduceCtorEq,iT,nA,nS,nM,iA,iS,iM,iN,fU];subst hK) | refine KB (hr) rfl rfl rfl ?_)
   exact ⟨_,rfl,rfl⟩
theorem dK {h:List Blk} {S:SD} {v vb:Nat} {nb live lb:Bool} {mn wk:CV} {st bu:Int} {bs:List Nat} (h3:h[3]? = PA ⟨v,113,9,[[.c (.val (.int .i64 (S.n:Int))),.c (.val (.int .i64 (S.m:Int))),.c (jB 1 fM (TD S)),.c (vr (aQ S.b)),.c mn,.own 4 vb,.c (.val (.int .i64 st)),.c (.val (.int .i64 bu)),.c wk]],live,SA⟩) (h4:h[4]? = PA ⟨vb,3,1,wB fI (MB bs),lb,nb⟩) :
  kC h 3 (aT v) = [3,4]:=by
 have e0:∀ x,EC h 3 (.c x) = []:=fun x=>rfl
 have e1:EC h 3 (.own 4 vb) = [4]:=used_own (n:=2) h4
 simp only [kC,fJ,DC,h3,List.getElem?_cons_zero,List.drop_zero,List.map_cons,List.map_nil,e0,e1,List.flatten_cons,List.flatten_nil,qA,List.append_nil]
def jS (v:Int) (X Y Ray:List Rat) (bs:List Nat) (st:Int):List Cell:=[.c (.val (.int .i64 v)),.c (vr (aQ X)),.c (vr (aQ Y)),.c (vr (aQ Ray)),.c (jB 1 fI (aC (MB bs))),.c (.val (.int .i64 st))]
abbrev aSR0:AV:=.agg [.c (.val (.int .i64 0)),.c (.val (.slice QA 0 0)),.c (.val (.slice QA 0 0)),.c (.val (.slice QA 0 0)),.c (.val (.slice QA 0 0)),.c (.val (.int .i64 0))]
theorem scale_neg (l:List Rat):JE (aQ l) (eB ((-1:Int):Rat)).val = yC l (-1):=by
 unfold JE yC
 rw [rawQ_val,RE,uA]
 refine wA (fun q _=>?_)
 show (eB q).val * _ = _
 rw [rawQ_val]
 rfl
theorem vr_nil:vr (aQ []) = .val (.slice QA 0 0):=rfl
def VJ (S:SD) (ms:List Bool) (O:RO) (bu:Int):AV :=
 if O.err then .tup [aSR0,aI 10] else
 match O.k with
 | none=>.tup [.agg (jS 1 (cC S O.bs (xL S O.bs)) (kE ms O.y O.y.length) [] O.bs (bu - (O.rem:Int))),aI 0]
 | some k=>.tup [.agg (jS 3 (cC S O.bs (xL S O.bs)) [] ((cC S O.bs (yC O.d (-1))).set k 1) O.bs (bu - (O.rem:Int))),aI 0]
def yP (S:SD) (ms:List Bool) (O:RO) (bu:Int):Blk:=match VJ S ms O bu with
 | .tup [.agg l,_]=>⟨0,69,6,[l],SA,SA⟩
 | _=>default
abbrev c67:CC:=(.seq (.reg [(oD 4 (.new 69 [(.int .i64 (0)),(.slice QA 0 0),(.slice QA 0 0),(.slice QA 0 0),(.slice QA 0 0),(.int .i64 (0))])),(mI 5 0)]) (.seq (.reg [(mV 12 0),(mV 13 1),(oD 14 (.callf (.func 19) [(.const (.int .i64 (0)))])),(oD 15 (.callf (.func 64) [(tP 12),(tP 13),(tP 14)])),(mV 11 15),(eX 16 11 0),(eX 17 11 1),(eX 18 11 2),(eX 19 11 3),(mV 6 16),(mV 7 17),(mV 8 18),(mV 9 19)]) (.seq (.seq (.reg [(mV 20 9),(bC 21 .neq 20 0)]) (.cond (tP 21) (.seq (.reg [(oD 22 (.build [(.int .i64 (0)),(.slice QA 0 0),(.slice QA 0 0),(.slice QA 0 0),(.slice QA 0 0),(.int .i64 (0))] [])),(mV 23 9),(sT 6 4 22),(mV 5 23)]) .ret) .skip)) (.seq (.regn SA [(mV 24 0),(mV 25 0),(fA 26 0 25),(fA 27 8 26),(lF 28 1 27),(oD 29 (.callf (.func 113) [(tP 24),(tP 28)])),(mV 30 0),(fA 31 0 30),(fA 32 5 31),(lF 33 1 32),(oD 34 (.callf (.func 36) [(tP 33)])),(mV 35 0),(fA 36 0 35),(fA 37 6 36),(lF 38 1 37),(oD 39 (.build [(.int .i64 (0)),(.slice QA 0 0),(.slice QA 0 0),(.slice QA 0 0),(.slice QA 0 0),(.int .i64 (0))] [(0,(1,(.const (.int .i64 (1))))),(1,(1,(tP 29))),(4,(1,(tP 34))),(5,(1,(tP 38)))])),(oD 10 (.fill 69 [(.int .i64 (0)),(.slice QA 0 0),(.slice QA 0 0),(.slice QA 0 0),(.slice QA 0 0),(.int .i64 (0))])),(sT 6 10 39)]) (.seq (.seq (.reg [(mV 40 7),(bC 41 .lss 40 0)]) (.cond (tP 41) (.seq (.reg [(mV 42 0),(mV 43 6),(oD 44 (.callf (.func 65) [(tP 42),(tP 43)])),(fA 45 2 10),(sT 1 45 44)]) (.seq (.reg [(lT 46 6 10),(sT 6 4 46),(mI 5 0)]) .ret)) .skip)) (.seq (.reg [(fA 47 0 10),⟨QA,QA,.store 1 (tP 47) (.const (.int .i64 (3)))⟩]) (.seq (.reg [(mV 48 0),(mV 49 8),(oD 50 (.callf (.func 19) [(.const (.int .i64 (-1)))])),(oD 51 (.callf (.func 44) [(tP 49),(tP 50)])),(oD 52 (.callf (.func 113) [(tP 48),(tP 51)])),(fA 53 3 10),(sT 1 53 52)]) (.seq (.reg [(fA 54 3 10),(lF 55 1 54),(mV 56 7),(oD 57 (.callf (.func 19) [(.const (.int .i64 (1)))])),(xA 58 3 55 56),(sT 3 58 57)]) (.seq (.reg [(lT 59 6 10),(sT 6 4 59),(mI 5 0)]) .ret)))))))))
theorem cc67:ZA Tryz.prog [64] (Tryz.f67.body.getD .skip) = PA c67:=by kernel_rfl
theorem body67:Tryz.f67.body = PA (Tryz.f67.body.getD .skip):=rfl
theorem second_O (S:SD) (L:Nat) (hS:SFits S L) (ms:List Bool) (hml:ms.length = S.m) (C:VV) (hcl:(UA C).length = S.n) (hcf:∀ r ∈ UA C,vD r L) (bu:Int) (hbu:bu <= 9223372036854775807) (rem:Nat) (hrem:(rem:Int) <= bu) (bs:List Nat) (hb:COk S bs) (v vb:Nat) (nb:Bool) (hnb:nb = !(MB bs).isEmpty) (wk:CV) (P0 P1 P2:Blk) (h0:aK P0) (h1:aK P1) (h2:aK P2) (f0:0 < P0.e) (f1:0 < P1.e) (f2:0 < P2.e) (O:RO) (hO:tC S (LC C) 0 rem bs = O) :
  DE Tryz.prog 67 [aT v,aV C] [P0,P1,P2,tB S v (NR ms) (.own 4 vb) (bu - (rem:Int)) bu wk,⟨vb,3,1,wB fI (MB bs),SA,nb⟩]
   (VJ S ms O bu)
   [P0,P1,P2,⟨v,113,9,[[.c (.val (.int .i64 (S.n:Int))),.c (.val (.int .i64 (S.m:Int))),.c (jB 1 fM (TD S)),.c (vr (aQ S.b)),.c (NR ms),.own 4 vb,.c (.val (.int .i64 (bu - (O.rem:Int)))),.c (.val (.int .i64 bu)),.c (vr (aQ (xL S O.bs)))]],TA,SA⟩,⟨vb,3,1,wB fI (MB O.bs),TA,nb⟩,yP S ms O bu]:=by
 have hm:=hS.mb
 have hn:=hS.nb
 have l1:=hS.l1
 have l2:=hS.l2
 have l3:=hS.l3
 have hrun:=run_O S L hS C 0 hcl hcf (HC _ l1) bu hbu rem hrem bs hb v vb nb hnb (NR ms) wk P0 P1 P2 ⟨0,69,6,[[.c (.val (.int .i64 0)),.c (.val (.slice QA 0 0)),.c (.val (.slice QA 0 0)),.c (.val (.slice QA 0 0)),.c (.val (.slice QA 0 0)),.c (.val (.int .i64 0))]],SA,SA⟩ h0 h1 h2 (fun n=>rfl) O hO
 have hi0:=KE 0 (by omega) (by omega)
 rw [show ((0:Int):Rat) = 0 from rfl] at hi0
 obtain ⟨g1,_,g3,_,g5⟩:=OE hS.toWf (costs:=LC C) (own:=0) (fun _=>True) (fun _ _ _ _ _ _=>trivial) rem bs hb trivial
 rw [hO] at g1 g3 g5
 have hB:=g1.toBOk
 have hlen:=hB.len
 have hnb2:nb = !(MB O.bs).isEmpty:=by
  rw [hnb,xF,xF,eC,eC,hlen,hb.len]
 have q0:=h0
 have q1:=h1
 have q2:=h2
 unfold aK at q0 q1 q2
 unfold tB at hrun
 unfold tB
 cases hE:O.err with
 | true =>
  rw [hE] at hrun
  have e1:VJ S ms O bu = .tup [aSR0,aI 10]:=by unfold VJ;rw [hE];rfl
  have e2:yP S ms O bu = ⟨0,69,6,[[.c (.val (.int .i64 0)),.c (.val (.slice QA 0 0)),.c (.val (.slice QA 0 0)),.c (.val (.slice QA 0 0)),.c (.val (.slice QA 0 0)),.c (.val (.int .i64 0))]],SA,SA⟩:=by unfold yP;rw [e1]
  rw [e1,e2]
  refine uJ (rs:=[(RV.cell 4 6 SA),(RV.tmp 5)]) Tryz.func67 (fun a w=>Tryz.call67 a w) body67 cc67 (by kernel_rfl) ?_
  rw [Tryz.ntmps67]
  simp only [pC,nA,nS]
  repeat (first | (with_reducible first | refine W8 ?_ | refine VA rfl ?_) | ((with_reducible refine X8 fun K hK=>?_);simp (disch:=first | omega | simp only [sB];omega) only [qB,reduceIte,reduceCtorEq,iT,nA,nS,nM,iA,iS,iM,iN,fU];subst hK) | refine KB (hi0) rfl rfl rfl ?_ | (apply PD (hrun) rfl rfl))
  refine ⟨_,TB.trans (TB.freeze [3,4] _) (TB.head (h':=[P0,P1,P2,⟨v,113,9,[[.c (.val (.int .i64 (S.n:Int))),.c (.val (.int .i64 (S.m:Int))),.c (jB 1 fM (TD S)),.c (vr (aQ S.b)),.c (NR ms),.own 4 vb,.c (.val (.int .i64 (bu - (O.rem:Int)))),.c (.val (.int .i64 bu)),.c (vr (aQ (xL S O.bs)))]],TA,SA⟩,⟨vb,3,1,wB fI (MB O.bs),TA,nb⟩,⟨0,69,6,[[.c (.val (.int .i64 0)),.c (.val (.slice QA 0 0)),.c (.val (.slice QA 0 0)),.c (.val (.slice QA 0 0)),.c (.val (.slice QA 0 0)),.c (.val (.int .i64 0))]],SA,SA⟩]) (show _ <= 6 from Nat.le_of_ble_eq_true rfl) (SA :: SA :: SA :: SA :: SA :: SA :: SA :: SA :: SA :: SA :: SA :: SA :: SA :: SA :: SA :: SA :: SA :: SA :: SA :: SA :: SA :: SA :: SA :: SA :: SA :: SA :: SA :: SA :: SA :: SA :: SA :: SA :: SA :: SA :: SA :: SA :: SA :: SA :: SA :: SA :: SA :: SA :: SA :: SA :: SA :: SA :: SA :: SA :: SA :: SA :: SA :: SA :: SA :: SA :: SA :: SA :: SA :: SA :: SA :: SA :: []) rfl ?hE1),rfl,rfl⟩
  rw [oC];simp only [lA,mA,YH,EB,nB,nA,IA,if_true,if_false,reduceIte]
  first | (simp (disch:=omega) only [pD,IB,lB,XA,clean1,JB,reduceIte,iS,iA,iN,q0,q1,q2];done) | rfl
 | false =>
  have g6:mE S (LC C) 0 O.bs = .fin O.k O.d /\ O.y = yL S (LC C) 0 O.bs:=by
   rcases g5 with ⟨_,g6,g7⟩ | ⟨g6,_⟩
   ·exact ⟨g6,g7⟩
   ·rw [hE] at g6;cases g6
  obtain ⟨g6,g7⟩:=g6
  have hyl:O.y.length = S.m:=by rw [g7];exact NN hS.toWf _ _ hB
  have hxl:=x_len hS.toWf hB
  have hsx:=(spread_P S hn O.bs (aC (MB O.bs)) (WB _) (xL S O.bs) (by omega) (by omega) (NR ms) (bu - (O.rem:Int)) bu (vr (aQ (xL S O.bs))))
  have hNN:(!decide (S.n = 0)) = !((cC S O.bs (xL S O.bs)).map eB).isEmpty:=by rw [xF,eA,IF]
  rw [hNN] at hsx
  have hsx:=hsx.fresh_rowO
  change YA _ _ _ (.ret (aV (aQ (cC S O.bs (xL S O.bs))))) at hsx
  have hcln:=eR (aC (MB O.bs)) (by rw [WB,eC];omega)
  have fy:∀ q ∈ O.y,SB q (4 ^ S.m * (L + 1)):=fun q hq=>by
   rw [g7] at hq
   refine wF (LJ hS hB.len) l1 (by rw [eA];exact hB.len) (fun q hq=>?_) q hq
   obtain ⟨k,hk,rfl⟩:=yA.1 hq
   unfold zD
   split
   ·exact HC _ l1
   ·rename_i h
    have h':k < (LC C).length:=by rw [YL];omega
    rw [bA,aA h']
    exact CK (n:=(UA C).length) ⟨EA _,hcf⟩ l1 _ (gA _)
  have htn:=turn_P S ms O.y (4 ^ S.m * (L + 1)) (by omega) (by omega) fy (by omega) (jB 1 fI (aC (MB O.bs))) (bu - (O.rem:Int)) bu (vr (aQ (xL S O.bs)))
  rw [hE] at hrun
  cases hK:O.k with
  | none =>
   rw [hK] at hrun
   change DE _ _ _ _ (.tup [aV (aQ O.y),aI (-1),aV (aQ O.d),aI 0]) _ at hrun
   have e1:VJ S ms O bu = .tup [.agg (jS 1 (cC S O.bs (xL S O.bs)) (kE ms O.y O.y.length) [] O.bs (bu - (O.rem:Int))),aI 0]:=by unfold VJ;rw [hE,hK];rfl
   have e2:yP S ms O bu = ⟨0,69,6,[jS 1 (cC S O.bs (xL S O.bs)) (kE ms O.y O.y.length) [] O.bs (bu - (O.rem:Int))],SA,SA⟩:=by unfold yP;rw [e1]
   rw [e1,e2]
   refine uJ (rs:=[(RV.cell 4 6 SA),(RV.tmp 5)]) Tryz.func67 (fun a w=>Tryz.call67 a w) body67 cc67 (by kernel_rfl) ?_
   rw [Tryz.ntmps67]
   simp only [pC,nA,nS]
   repeat (first | (with_reducible first | refine W8 ?_ | refine VA rfl ?_) | ((with_reducible refine X8 fun K hK=>?_);simp (disch:=first | omega | simp only [sB];omega) only [qB,reduceIte,reduceCtorEq,iT,nA,nS,nM,iA,iS,iM,iN,fU,phIdx_v];subst hK) | refine KB (hi0) rfl rfl rfl ?_ | (apply PD (hrun) rfl rfl) | (apply YE (hsx) rfl;(case hcl=>(simp only [oE,St.ev,yB,NE];(repeat (first | exact kB | (apply gB;(first | (refine CB rfl (by decide)) | (refine BB rfl (by decide) ?_;assumption) | rfl | exact (xE rfl rfl hnb2)))));done));(case hu=>(simp only [oE,St.ev,yB,NE];(repeat (first | exact RC | (apply AC;(first | (apply xC;rfl) | exact (dK rfl rfl) | rfl))));done));(case h1=>((simp only [YH,EB,nB,nA,IA,if_true,if_false,reduceIte]) <;> rfl));(case h2=>exact rfl);intro b3 b4;simp only [AH]) | (apply YE (hcln) rfl;(case hcl=>(simp only [oE,St.ev,yB,NE];(repeat (first | exact kB | (apply gB;(first | (refine CB rfl (by decide)) | (refine BB rfl (by decide) ?_;assumption) | rfl | exact (xE rfl rfl hnb2)))));done));(case hu=>(simp only [oE,St.ev,yB,NE];(repeat (first | exact RC | (apply AC;(first | (apply xC;rfl) | exact (dK rfl rfl) | rfl))));done));(case h1=>((simp only [YH,EB,nB,nA,IA,if_true,if_false,reduceIte]) <;> rfl));(case h2=>exact rfl);intro b3 b4;simp only [AH]) | (apply YE (htn) rfl;(case hcl=>(simp only [oE,St.ev,yB,NE];(repeat (first | exact kB | (apply gB;(first | (refine CB rfl (by decide)) | (refine BB rfl (by decide) ?_;assumption) | rfl | exact (xE rfl rfl hnb2)))));done));(case hu=>(simp only [oE,St.ev,yB,NE];(repeat (first | exact RC | (apply AC;(first | (apply xC;rfl) | exact (dK rfl rfl) | rfl))));done));(case h1=>((simp only [YH,EB,nB,nA,IA,if_true,if_false,reduceIte]) <;> rfl));(case h2=>exact rfl);intro b3 b4;simp only [AH]))
   refine ⟨_,TB.trans (TB.freeze [3,4] _) (TB.head (h':=[P0,P1,P2,⟨v,113,9,[[.c (.val (.int .i64 (S.n:Int))),.c (.val (.int .i64 (S.m:Int))),.c (jB 1 fM (TD S)),.c (vr (aQ S.b)),.c (NR ms),.own 4 vb,.c (.val (.int .i64 (bu - (O.rem:Int)))),.c (.val (.int .i64 bu)),.c (vr (aQ (xL S O.bs)))]],TA,SA⟩,⟨vb,3,1,wB fI (MB O.bs),TA,nb⟩,⟨0,69,6,[jS 1 (cC S O.bs (xL S O.bs)) (kE ms O.y O.y.length) [] O.bs (bu - (O.rem:Int))],SA,SA⟩]) (show _ <= 6 from Nat.le_of_ble_eq_true rfl) (SA :: SA :: SA :: SA :: SA :: SA :: SA :: SA :: SA :: SA :: SA :: SA :: SA :: SA :: SA :: SA :: SA :: SA :: SA :: SA :: SA :: SA :: SA :: SA :: SA :: SA :: SA :: SA :: SA :: SA :: SA :: SA :: SA :: SA :: SA :: SA :: SA :: SA :: SA :: SA :: SA :: SA :: SA :: SA :: SA :: SA :: SA :: SA :: SA :: SA :: SA :: SA :: SA :: SA :: SA :: SA :: SA :: SA :: SA :: SA :: []) rfl ?hE2),rfl,rfl⟩
   rw [oC];simp only [lA,mA,YH,EB,nB,nA,IA,if_true,if_false,reduceIte]
   first | (simp (disch:=omega) only [pD,IB,lB,XA,clean1,JB,reduceIte,iS,iA,iN,q0,q1,q2,jS,vr_nil];done) | rfl
  | some k =>
   rw [hK] at hrun g6
   change DE _ _ _ _ (.tup [aV (aQ O.y),aI (k:Int),aV (aQ O.d),aI 0]) _ at hrun
   obtain ⟨ge,gd,_⟩:=zG hS.toWf hB g6
   obtain ⟨gk,_,_⟩:=tG hS.toWf hB ge
   have hdl:O.d.length = S.m:=by rw [gd];exact d_len hS.toWf hB k
   have fd:∀ q ∈ O.d,SB q (4 ^ S.m * (L + 1)):=fun q hq=>by
    rw [gd] at hq
    have hkc:k < S.cols.length:=by have:=hS.cl;omega
    refine wF (vH (LJ hS hB.len)) l1 (hS.cm k gk) (fun q hq=>?_) q hq
    rw [bA,aA hkc] at hq
    exact hS.colf _ (gA hkc) q hq
   have hK1:1 <= 4 ^ S.m * (L + 1):=Nat.mul_pos (Nat.pow_pos (by decide)) (by omega)
   have him:=KE (-1) (by omega) (by omega)
   have hi1:=KE 1 (by omega) (by omega)
   rw [show ((1:Int):Rat) = 1 from rfl] at hi1
   have hsc:=vscale_R (aQ O.d) (eB ((-1:Int):Rat)) S.m (4 ^ S.m * (L + 1)) (nE (by omega) fd) (QB ((SB.neg (FE _ hK1)).mono (EA _))) (by omega) hK1 (by omega)
   rw [scale_neg] at hsc
   change YA _ _ _ (.ret (aV (aQ (yC O.d (-1))))) at hsc
   have hscl:(yC O.d (-1)).length = S.m:=by unfold yC;rw [eA];exact hdl
   have hsr:=spread_P S hn O.bs (aC (MB O.bs)) (WB _) (yC O.d (-1)) (by omega) (by omega) (NR ms) (bu - (O.rem:Int)) bu (vr (aQ (xL S O.bs)))
   generalize hl:yC O.d (-1) = sl at hsc hsr hscl
   have hspl:((cC S O.bs sl).map eB).length = S.n:=by rw [eA,IF]
   have hsR:(wB fR ((cC S O.bs sl).map eB)).set k [Cell.c (.val (.bool (eB 1).minus)),Cell.c (nr (eB 1).size),Cell.c (nr (eB 1).den)] = wB fR (((cC S O.bs sl).set k 1).map eB):=by
    rw [List.map_set];exact SE _ k (eB 1)
   have hfl:∀ x:RR,(List.map Cell.c (fR x)).length = 3:=fun x=>rfl
   have hdr:∀ x:RR,List.drop 3 (List.map Cell.c (fR x)) = []:=fun x=>rfl
   have e1:VJ S ms O bu = .tup [.agg (jS 3 (cC S O.bs (xL S O.bs)) [] ((cC S O.bs sl).set k 1) O.bs (bu - (O.rem:Int))),aI 0]:=by unfold VJ;rw [hE,hK,hl];rfl
   have e2:yP S ms O bu = ⟨0,69,6,[jS 3 (cC S O.bs (xL S O.bs)) [] ((cC S O.bs sl).set k 1) O.bs (bu - (O.rem:Int))],SA,SA⟩:=by unfold yP;rw [e1]
   have hne:((cC S O.bs sl).set k 1).map eB ≠ []:=fun h=>by
    have:=congrArg List.length h
    rw [eA,List.length_set,IF] at this
    simp at this;omega
   have hnn:SA = !(((cC S O.bs sl).set k 1).map eB).isEmpty:=by
    cases h:((cC S O.bs sl).set k 1).map eB with
    | nil=>exact absurd h hne
    | cons a t=>rfl
   rw [e1,e2]
   refine uJ (rs:=[(RV.cell 4 6 SA),(RV.tmp 5)]) Tryz.func67 (fun a w=>Tryz.call67 a w) body67 cc67 (by kernel_rfl) ?_
   rw [Tryz.ntmps67]
   simp only [pC,nA,nS]
   repeat (first | (with_reducible first | refine W8 ?_ | refine VA rfl ?_) | ((with_reducible refine X8 fun K hK=>?_);simp (disch:=first | omega | simp only [sB];omega) only [qB,reduceIte,reduceCtorEq,iT,nA,nS,nM,iA,iS,iM,iN,fU,phIdx_v,hspl,hsR,hfl,hdr,fR];subst hK) | refine KB (hi0) rfl rfl rfl ?_ | (apply PD (hrun) rfl rfl) | (apply YE (hsx) rfl;(case hcl=>(simp only [oE,St.ev,yB,NE];(repeat (first | exact kB | (apply gB;(first | (refine CB rfl (by decide)) | (refine BB rfl (by decide) ?_;assumption) | rfl | exact (xE rfl rfl hnb2)))));done));(case hu=>(simp only [oE,St.ev,yB,NE];(repeat (first | exact RC | (apply AC;(first | (apply xC;rfl) | exact (dK rfl rfl) | rfl))));done));(case h1=>((simp only [YH,EB,nB,nA,IA,if_true,if_false,reduceIte]) <;> rfl));(case h2=>exact rfl);intro b3 b4;simp only [AH]) | (apply YE (hcln) rfl;(case hcl=>(simp only [oE,St.ev,yB,NE];(repeat (first | exact kB | (apply gB;(first | (refine CB rfl (by decide)) | (refine BB rfl (by decide) ?_;assumption) | rfl | exact (xE rfl rfl hnb2)))));done));(case hu=>(simp only [oE,St.ev,yB,NE];(repeat (first | exact RC | (apply AC;(first | (apply xC;rfl) | exact (dK rfl rfl) | rfl))));done));(case h1=>((simp only [YH,EB,nB,nA,IA,if_true,if_false,reduceIte]) <;> rfl));(case h2=>exact rfl);intro b3 b4;simp only [AH]) | refine KB (him) rfl rfl rfl ?_ | refine KB (hi1) rfl rfl rfl ?_ | refine KB (hsc) rfl rfl rfl ?_ | (apply KG (hsr) rfl;(case hcl=>(simp only [oE,St.ev,yB,NE];(repeat (first | exact kB | (apply gB;(first | (refine CB rfl (by decide)) | (refine BB rfl (by decide) ?_;assumption) | rfl | exact (xE rfl rfl hnb2)))));done));(case hu=>(simp only [oE,St.ev,yB,NE];(repeat (first | exact RC | (apply AC;(first | (apply xC;rfl) | exact (dK rfl rfl) | rfl))));done));(case hh=>((simp only [YH,EB,nB,nA,IA,if_true,if_false,reduceIte]) <;> rfl))))
   refine ⟨_,TB.trans (TB.trans (TB.cells (b:=5) (els':=[jS 3 (cC S O.bs (xL S O.bs)) [] ((cC S O.bs sl).set k 1) O.bs (bu - (O.rem:Int))]) [7] rfl rfl (.cons (.cons (.inl rfl) (.cons (.inl rfl) (.cons (.inl rfl) (.cons ((JG (c:=7) rfl (by decide) hnn (by simp)).2 0 _ _ rfl rfl) (.cons (.inl rfl) (.cons (.inl rfl) .nil)))))) .nil)) (TB.freeze [3,4] _)) (TB.head (h':=[P0,P1,P2,⟨v,113,9,[[.c (.val (.int .i64 (S.n:Int))),.c (.val (.int .i64 (S.m:Int))),.c (jB 1 fM (TD S)),.c (vr (aQ S.b)),.c (NR ms),.own 4 vb,.c (.val (.int .i64 (bu - (O.rem:Int)))),.c (.val (.int .i64 bu)),.c (vr (aQ (xL S O.bs)))]],TA,SA⟩,⟨vb,3,1,wB fI (MB O.bs),TA,nb⟩,⟨0,69,6,[jS 3 (cC S O.bs (xL S O.bs)) [] ((cC S O.bs sl).set k 1) O.bs (bu - (O.rem:Int))],SA,SA⟩]) (show _ <= 6 from Nat.le_of_ble_eq_true rfl) (SA :: SA :: SA :: SA :: SA :: SA :: SA :: SA :: SA :: SA :: SA :: SA :: SA :: SA :: SA :: SA :: SA :: SA :: SA :: SA :: SA :: SA :: SA :: SA :: SA :: SA :: SA :: SA :: SA :: SA :: SA :: SA :: SA :: SA :: SA :: SA :: SA :: SA :: SA :: SA :: SA :: SA :: SA :: SA :: SA :: SA :: SA :: SA :: SA :: SA :: SA :: SA :: SA :: SA :: SA :: SA :: SA :: SA :: SA :: SA :: []) rfl ?hE3),rfl,rfl⟩
   rw [oC];simp only [lA,mA,YH,EB,nB,nA,IA,if_true,if_false,reduceIte]
   first | (simp (disch:=omega) only [pD,IB,lB,XA,clean1,JB,reduceIte,iS,iA,iN,q0,q1,q2,jS,vr_nil];done) | rfl
end Go.Proofs.YtncgbjhojbnecaaGreat
