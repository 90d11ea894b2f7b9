/- Walks of offcutref01: Mul, DivMod, Gcd, Of. -/
import Derived.ChangeSame
import Derived.Test.YtncgbjhojbnecaaGreatRows
import Derived.JoinedOf
import Derived.ProofKit
import Derived.Test.YtncgbjhojbnecaaGreatU10
import Derived.Test.YtncgbjhojbnecaaGreatU11
import Derived.Test.YtncgbjhojbnecaaGreatU12
import Derived.Test.YtncgbjhojbnecaaGreatU15
import Derived.Test.YtncgbjhojbnecaaGreatU5
import Derived.Test.YtncgbjhojbnecaaGreatU7
import Derived.Test.YtncgbjhojbnecaaGreatU9
set_option linter.unusedSimpArgs false
set_option linter.unusedVariables false
set_option linter.unnecessarySimpa false
set_option maxRecDepth 100000
set_option maxHeartbeats 4000000
open List renaming replicate -> jA, length_replicate -> tA, getElem_mem -> gA, length_append -> sA, length_cons -> oA, length_map -> eA, getD_eq_getElem?_getD -> bA, getElem?_eq_getElem -> aA
open Bool renaming true -> SA, false -> TA, and_eq_true -> JA
open Option renaming some -> PA, none -> QA
open Go.Am.Way renaming imp -> W8
open Go.Am.WayR renaming imp -> X8
open Nat renaming zero_le -> FA, le_refl -> EA, lt_of_lt_of_le -> HA, le_trans -> GA
namespace Go.Proofs.YtncgbjhojbnecaaGreat
open Go Go.Am Go.Proofs Go.Off
open Nat renaming reduceAdd -> nA,reduceSub -> nS,reduceMul -> nM,reduceBEq -> nB
open Int renaming reduceToNat -> iT,reduceAdd -> iA,reduceSub -> iS,reduceMul -> iM,reduceNeg -> iN
def fN (n:Nat):List CV:=[.val (.int .i64 (n:Int))]
theorem setN (l:List Nat) (i:Nat) (x:Nat):(wB fN l).set i [Cell.c (.val (.int .i64 (x:Int)))] = wB fN (l.set i x):=SE l i x
theorem repN (n:Nat):jA n [Cell.c (.val (.int .i64 0))] = wB fN (jA n 0):=by rw [TE];rfl
theorem dY {a b:Nat} (ha:a < 10) (hb:b < 10):a * b <= 81:=Nat.mul_le_mul (show a <= 9 by omega) (show b <= 9 by omega)
abbrev c99_k1:CC:=(.seq (.reg [(mV 69 8),(oD 70 (.callf (.func 102) [(tP 69)])),(mV 4 70)]) .ret)
abbrev c99_b1:CC:=(.seq (.seq (.reg [(mV 50 10),(mV 51 5),(nL 52 51),(bB 53 .lss 50 52)]) (.cond (tP 53) .skip (.exit 4))) (.seq (.block 5 (.seq (.reg [(mV 56 5),(mV 57 10),(xA 58 1 56 57),(lF 59 1 58),(mV 60 9),(bB 61 .add 59 60),(mV 11 61)]) (.seq (.reg [(mV 62 11),(bC 63 .rem 62 10),(oD 64 (.callf (.func 100) [(tP 63)])),(mV 65 8),(bB 66 .add 64 65),(mV 8 66)]) (.reg [(mV 67 11),(bC 68 .quo 67 10),(mV 9 68)])))) (.reg [(mV 54 10),(bC 55 .add 54 1),(mV 10 55)])))
abbrev c99_k2:CC:=(.seq (.reg [(oD 8 (.mv (.const (.string ⟨#[]⟩))))]) (.seq (.reg [(mI 9 0)]) (.seq (.seq (.reg [(mI 10 0)]) (.block 4 (.loop c99_b1))) c99_k1)))
abbrev c99_k3:CC:=(.reg [(mV 23 6),(bC 24 .add 23 1),(mV 6 24)])
abbrev c99_b2:CC:=(.seq (.seq (.reg [(mV 25 7),(mV 26 1),(oD 27 (.len SA (tP 26))),(bB 28 .lss 25 27)]) (.cond (tP 28) .skip (.exit 2))) (.seq (.block 3 (.reg [(mV 31 5),(mV 32 6),(mV 33 7),(bB 34 .add 32 33),(mV 35 5),(mV 36 6),(mV 37 7),(bB 38 .add 36 37),(xA 39 1 35 38),(lF 40 1 39),(mV 41 0),(mV 42 6),(oD 43 (.callf (.func 130) [(tP 41),(tP 42)])),(mV 44 1),(mV 45 7),(oD 46 (.callf (.func 130) [(tP 44),(tP 45)])),(bB 47 .mul 43 46),(bB 48 .add 40 47),(xA 49 1 31 34),(sT 1 49 48)])) (.reg [(mV 29 7),(bC 30 .add 29 1),(mV 7 30)])))
abbrev c99_b3:CC:=(.seq (.seq (.reg [(mV 19 6),(mV 20 0),(oD 21 (.len SA (tP 20))),(bB 22 .lss 19 21)]) (.cond (tP 22) .skip (.exit 0))) (.seq (.block 1 (.seq (.reg [(mI 7 0)]) (.block 2 (.loop c99_b2)))) c99_k3))
abbrev c99:CC:=(.seq (.reg [(oD 4 (.mv (.const (.string ⟨#[]⟩))))]) (.seq (.reg [(mV 12 0),(oD 13 (.len SA (tP 12))),(mV 14 1),(oD 15 (.len SA (tP 14))),(bB 16 .add 13 15),(bC 17 .add 16 1),(oD 18 (.make 3 1 8 [(.int .i64 (0))] (tP 17) (tP 17))),(mV 5 18)]) (.seq (.seq (.reg [(mI 6 0)]) (.block 0 (.loop c99_b3))) c99_k2)))
theorem cc99:ZA Tryz.prog [] (Tryz.f99.body.getD .skip) = PA c99:=by kernel_rfl
theorem body99:Tryz.f99.body = PA (Tryz.f99.body.getD .skip):=rfl
theorem tmul_C (s t:List UInt8) (hs:∀ c ∈ s,jD c) (ht:∀ c ∈ t,jD c) (ls:s.length <= 10000000000) (lt:t.length <= 10000000000):YA Tryz.prog 99 [aS s,aS t] (.ret (aS (ZC (tv s * tv t)))):=by
 refine WA (rs:=[(RV.tmp 4)]) Tryz.func99 (fun a w=>Tryz.call99 a w) body99 cc99 (by kernel_rfl) ?_
 rw [Tryz.ntmps99]
 simp only [pC,nA,nS]
 have hm:(s.length:Int) + t.length + 1 = ((s.length + t.length + 1:Nat):Int):=by omega
 repeat (first | (with_reducible first | refine W8 ?_ | refine VA rfl ?_) | ((with_reducible refine X8 fun K hK=>?_);simp (disch:=first | omega | simp only [sB];omega) only [qB,reduceIte,reduceCtorEq,iT,nA,nS,nM,iA,iS,iM,iN,fU,pB,oB,zB,LB,fB,AB,List.take_length,hm,repN,tA];subst hK))
 refine xB (fun (zz:Nat × (List Nat))=>⟨(aS s :: aS t :: .junk :: .junk :: aS [] :: .one (.own 0 0) :: aI zz.1 :: K8 (K8 ([]))),[⟨0,3,1,wB fN zz.2,SA,SA⟩]⟩) (fun (zz:Nat × (List Nat))=>zz.1 <= s.length /\ zz.2.length = s.length + t.length + 1 /\ pv zz.2 = GI s zz.1 * tv t /\ ∀ j (h:j < zz.2.length),zz.2[j] <= 81 * zz.1) (fun (zz:Nat × (List Nat))=>s.length - zz.1) (0,jA (s.length + t.length + 1) 0) ?hI1 (TB.headA (FA 1) [SA,SA,TA,TA,SA,SA,SA]) ?hB1
 ·dsimp only;exact ⟨by omega,tA,by rw [MT,DK,Nat.zero_mul],fun j h=>by simp⟩
 rintro ⟨i,acc⟩ ⟨hi,hlen,hpv,hbd⟩
 dsimp only at hi hlen hpv hbd
 by_cases him:i = s.length
 ·rw [him,FI s (EA _)] at hpv
  rw [him] at hbd
  repeat (first | (with_reducible first | refine W8 ?_ | refine VA rfl ?_) | ((with_reducible refine X8 fun K hK=>?_);simp (disch:=first | omega | simp only [sB];omega) only [qB,reduceIte,reduceCtorEq,iT,nA,nS,nM,iA,iS,iM,iN,fU,pB,oB,zB,LB,fB,AB,List.take_length];subst hK))
  refine xB (fun (zz:Nat × (List UInt8) × Nat)=>⟨(J4 (aS [] :: .one (.own 0 0) :: .junk :: .junk :: aS zz.2.1 :: aI zz.2.2 :: aI zz.1 :: K8 (L8 (J8 (J4 ([])))))),[⟨0,3,1,wB fN acc,SA,SA⟩]⟩) (fun (zz:Nat × (List UInt8) × Nat)=>zz.1 <= acc.length /\ zz.2.1.length = zz.1 /\ (∀ x ∈ zz.2.1,jD x) /\ zz.2.2 <= 81 * s.length /\ tv zz.2.1 + 10 ^ zz.1 * zz.2.2 + 10 ^ zz.1 * pv (acc.drop zz.1) = tv s * tv t) (fun (zz:Nat × (List UInt8) × Nat)=>acc.length - zz.1) (0,[],0) ?hI2 (TB.headA (FA 1) [TA,TA,TA,TA,SA,SA,TA,TA,SA,SA,SA]) ?hB2
  ·dsimp only;exact ⟨by omega,rfl,by simp,by omega,by simp [tv,rv,hpv]⟩
  rintro ⟨k,out,c⟩ ⟨hk,hol,hdig,hc,hinv⟩
  dsimp only at hk hol hdig hc hinv
  by_cases hkm:k = acc.length
  ·have hcut:=WS out hdig (by omega)
   have hv:tv out = tv s * tv t:=by
    rw [hkm,List.drop_length] at hinv
    simp only [pv,Nat.mul_zero,Nat.add_zero] at hinv
    have h1:=eL hs
    have h2:=eL ht
    have h3:tv s * tv t < 10 ^ acc.length:=by
     refine HA (Nat.mul_lt_mul'' h1 h2) ?_
     rw [<- Nat.pow_add]
     exact Nat.pow_le_pow_right (by decide) (by omega)
    cases c with
    | zero=>simpa using hinv
    | succ c =>
     have:10 ^ acc.length * 1 <= 10 ^ acc.length * (c + 1):=Nat.mul_le_mul_left _ (by omega)
     omega
   rw [hv] at hcut
   repeat (first | (with_reducible first | refine W8 ?_ | refine VA rfl ?_) | ((with_reducible refine X8 fun K hK=>?_);simp (disch:=first | omega | simp only [sB];omega) only [qB,reduceIte,reduceCtorEq,iT,nA,nS,nM,iA,iS,iM,iN,fU,pB,oB,zB,LB,fB,AB,List.take_length];subst hK) | refine KB (hcut) rfl rfl rfl ?_)
   exact ⟨_,rfl,rfl⟩
  ·have hka:k < acc.length:=by omega
   have hx:=hbd k hka
   have hdm:(acc[k] + c) % 10 < 10:=Nat.mod_lt _ (by decide)
   have hsg:=vP _ hdm
   have hs1:(acc[k]:Int) + c = ((acc[k] + c:Nat):Int):=by omega
   have hr:((acc[k] + c:Nat):Int).tmod 10 = (((acc[k] + c) % 10:Nat):Int):=by rw [gJ (by omega)];simp
   have hq:((acc[k] + c:Nat):Int).tdiv 10 = (((acc[k] + c) / 10:Nat):Int):=by rw [iJ (by omega)];simp
   have hcs:=MY (O:=tv out) (c:=c) (x:=acc[k]) (R:=pv (acc.drop (k + 1))) (P:=tv s * tv t) (k:=k) (by rw [<- pv_drop acc k hka];exact hinv)
   have hb2:(acc[k] + c) / 10 <= 81 * s.length:=by omega
   have hb3:acc[k] + c <= 9000000000000:=by omega
   generalize hm2:acc[k] + c = m at *
   repeat (first | (with_reducible first | refine W8 ?_ | refine VA rfl ?_) | ((with_reducible refine X8 fun K hK=>?_);simp (disch:=first | omega | simp only [sB];omega) only [qB,reduceIte,reduceCtorEq,iT,nA,nS,nM,iA,iS,iM,iN,fU,pB,oB,zB,LB,fB,AB,List.take_length,fN,hs1,hm2,hr,hq];subst hK) | refine KB (hsg) rfl rfl rfl ?_)
   refine ⟨(k + 1,nU (m % 10) :: out,m / 10),?hI3,?hM3,TB.headA (FA 1) [TA,TA,TA,TA,SA,SA,TA,TA,SA,SA,SA]⟩
   ·dsimp only
    refine ⟨by omega,by simp [hol],?_,hb2,?_⟩
    ·intro x hx
     rcases List.mem_cons.1 hx with rfl | hx
     ·exact pI hdm
     ·exact hdig x hx
    ·rw [gI,TK hdm,hol]
     exact hcs
   ·dsimp only;omega
 ·repeat (first | (with_reducible first | refine W8 ?_ | refine VA rfl ?_) | ((with_reducible refine X8 fun K hK=>?_);simp (disch:=first | omega | simp only [sB];omega) only [qB,reduceIte,reduceCtorEq,iT,nA,nS,nM,iA,iS,iM,iN,fU,pB,oB,zB,LB,fB,AB,List.take_length];subst hK))
  refine xB (fun (zz:Nat × (List Nat))=>⟨(aS s :: aS t :: .junk :: .junk :: aS [] :: .one (.own 0 0) :: aI i :: aI zz.1 :: K8 (L8 (J8 (J4 (.junk :: .junk :: .junk :: []))))),[⟨0,3,1,wB fN zz.2,SA,SA⟩]⟩) (fun (zz:Nat × (List Nat))=>zz.1 <= t.length /\ zz.2.length = s.length + t.length + 1 /\ pv zz.2 = GI s i * tv t + 10 ^ i * cF s i * GI t zz.1 /\ (∀ j (h:j < zz.2.length),zz.2[j] <= 81 * (i + 1)) /\ ∀ j (h:j < zz.2.length),i + zz.1 <= j -> zz.2[j] <= 81 * i) (fun (zz:Nat × (List Nat))=>t.length - zz.1) (0,acc) ?hI4 (TB.headA (FA 1) [SA,SA,TA,TA,SA,SA,SA,SA]) ?hB4
  ·dsimp only;exact ⟨by omega,hlen,by rw [hpv,DK];simp,fun j h=>by have:=hbd j h;omega,fun j h _=>hbd j h⟩
  clear hlen hpv hbd
  rintro ⟨k,acc2⟩ ⟨hk,hlen,hpv,hbd,hbd2⟩
  dsimp only at hk hlen hpv hbd hbd2
  by_cases hkm:k = t.length
  ·repeat (first | (with_reducible first | refine W8 ?_ | refine VA rfl ?_) | ((with_reducible refine X8 fun K hK=>?_);simp (disch:=first | omega | simp only [sB];omega) only [qB,reduceIte,reduceCtorEq,iT,nA,nS,nM,iA,iS,iM,iN,fU,pB,oB,zB,LB,fB,AB,List.take_length];subst hK))
   refine ⟨(i + 1,acc2),?hI5,?hM5,TB.headA (FA 1) [SA,SA,TA,TA,SA,SA,SA]⟩
   ·dsimp only
    refine ⟨by omega,hlen,?_,hbd⟩
    rw [hpv,hkm,FI t (EA _),FF,Nat.add_mul]
   ·dsimp only;omega
  ·have hik:i + k < acc2.length:=by omega
   have hx:=hbd2 (i + k) hik (EA _)
   have d1:=WM hs i
   have d2:=WM ht k
   have hxy:=dY d1 d2
   have a1:=xS s i hs (by omega) (by omega)
   have a2:=xS t k ht (by omega) (by omega)
   have hik2:((i:Int) + (k:Int)).toNat = i + k:=by omega
   have hmul:(cF s i:Int) * (cF t k:Int) = ((cF s i * cF t k:Nat):Int):=by simp
   have hadd:(acc2[i + k]:Int) + ((cF s i * cF t k:Nat):Int) = ((acc2[i + k] + cF s i * cF t k:Nat):Int):=by simp
   have hps:=pv_set acc2 (i + k) hik (acc2[i + k] + cF s i * cF t k)
   have hpe:GI t (k + 1) = GI t k + 10 ^ k * cF t k:=FF t k
   have hpv2:pv (acc2.set (i + k) (acc2[i + k] + cF s i * cF t k)) = GI s i * tv t + 10 ^ i * cF s i * GI t (k + 1):=by
    rw [hpe,Nat.mul_add (10 ^ i * cF s i),<- Nat.add_assoc,<- hpv]
    have e:10 ^ i * cF s i * (10 ^ k * cF t k) = 10 ^ (i + k) * (cF s i * cF t k):=by rw [Nat.pow_add];ac_rfl
    rw [e]
    rw [Nat.mul_add] at hps
    omega
   generalize cF s i * cF t k = p at *
   repeat (first | (with_reducible first | refine W8 ?_ | refine VA rfl ?_) | ((with_reducible refine X8 fun K hK=>?_);simp (disch:=first | omega | simp only [sB];omega) only [qB,reduceIte,reduceCtorEq,iT,nA,nS,nM,iA,iS,iM,iN,fU,pB,oB,zB,LB,fB,AB,List.take_length,fN,hik2,hmul,hadd,setN];subst hK) | refine KB (a1) rfl rfl rfl ?_ | refine KB (a2) rfl rfl rfl ?_)
   refine ⟨(k + 1,acc2.set (i + k) (acc2[i + k] + p)),?hI6,?hM6,TB.headA (FA 1) [SA,SA,TA,TA,SA,SA,SA,SA]⟩
   ·dsimp only
    refine ⟨by omega,by rw [List.length_set];exact hlen,hpv2,fun j h=>?_,fun j h hj=>?_⟩
    ·rw [List.getElem_set]
     split
     ·omega
     ·exact hbd j (by rw [List.length_set] at h;exact h)
    ·rw [List.getElem_set_ne (by omega)]
     exact hbd2 j (by rw [List.length_set] at h;exact h) (by omega)
   ·dsimp only;omega
end Go.Proofs.YtncgbjhojbnecaaGreat
namespace Go.Proofs.YtncgbjhojbnecaaGreat
open Go Go.Am Go.Proofs Go.Off
open Nat renaming reduceAdd -> nA,reduceSub -> nS,reduceMul -> nM,reduceBEq -> nB
open Int renaming reduceToNat -> iT,reduceAdd -> iA,reduceSub -> iS,reduceMul -> iM,reduceNeg -> iN
def wStr:Value:=.string ⟨#[52,50,57,52,57,54,55,50,57,54]⟩
theorem QC:yB wStr = aS (ZC 4294967296):=by rw [xN];rfl
def dJ (n:Nat):Prop:=(ZC n).length <= 10000000000
theorem dJ.le {n m:Nat} (h:dJ n) (hm:m <= n):dJ m:=by
 unfold dJ at *
 refine Decidable.byContradiction fun h2=>?_
 have:=FJ (a:=n) (b:=m) (by omega)
 omega
abbrev c105_k1:CC:=(.seq (.reg [(mV 37 6),(oD 38 (.callf (.func 102) [(tP 37)])),(mV 39 7),(mV 4 38),(mV 5 39)]) .ret)
abbrev c105_k2:CC:=(.reg [(mV 14 8),(bC 15 .add 14 1),(mV 8 15)])
abbrev c105_k3:CC:=(.reg [(mV 33 6),(mV 34 9),(oD 35 (.callf (.func 100) [(tP 34)])),(bB 36 .add 33 35),(mV 6 36)])
abbrev c105_b1:CC:=(.seq (.seq (.reg [(mV 24 7),(mV 25 1),(oD 26 (.callf (.func 131) [(tP 24),(tP 25)])),(uN 27 26)]) (.cond (tP 27) .skip (.exit 2))) (.block 3 (.seq (.reg [(mV 28 7),(mV 29 1),(oD 30 (.callf (.func 132) [(tP 28),(tP 29)])),(mV 7 30)]) (.reg [(mV 31 9),(bC 32 .add 31 1),(mV 9 32)]))))
abbrev c105_b2:CC:=(.seq (.seq (.reg [(mV 10 8),(mV 11 0),(oD 12 (.len SA (tP 11))),(bB 13 .lss 10 12)]) (.cond (tP 13) .skip (.exit 0))) (.seq (.block 1 (.seq (.reg [(mV 16 7),(mV 17 0),(mV 18 8),(mV 19 8),(bC 20 .add 19 1),(oD 21 (.sslice (tP 17) (PA (tP 18)) (PA (tP 20)))),(bB 22 .add 16 21),(oD 23 (.callf (.func 102) [(tP 22)])),(mV 7 23)]) (.seq (.reg [(mI 9 0)]) (.seq (.block 2 (.loop c105_b1)) c105_k3)))) c105_k2))
abbrev c105:CC:=(.seq (.reg [(oD 4 (.mv (.const (.string ⟨#[]⟩)))),(oD 5 (.mv (.const (.string ⟨#[]⟩))))]) (.seq (.reg [(oD 6 (.mv (.const (.string ⟨#[]⟩))))]) (.seq (.reg [(oD 7 (.mv (.const (.string ⟨#[48]⟩))))]) (.seq (.seq (.reg [(mI 8 0)]) (.block 0 (.loop c105_b2))) c105_k1))))
theorem cc105:ZA Tryz.prog [] (Tryz.f105.body.getD .skip) = PA c105:=by kernel_rfl
theorem body105:Tryz.f105.body = PA (Tryz.f105.body.getD .skip):=rfl
theorem VM (a b:Nat) (ha:dJ a) (hb:(ZC b).length <= 10000000000) (h0:b ≠ 0):YA Tryz.prog 105 [aS (ZC a),aS (ZC b)] (.ret (.tup [aS (ZC (a / b)),aS (ZC (a % b))])):=by
 have hda:=ME a
 have hta:=qE a
 unfold dJ at ha
 generalize ZC a = s at *
 have hbp:0 < b:=Nat.pos_of_ne_zero h0
 refine WA (rs:=[(RV.tmp 4),(RV.tmp 5)]) Tryz.func105 (fun a w=>Tryz.call105 a w) body105 cc105 (by kernel_rfl) ?_
 rw [Tryz.ntmps105]
 simp only [pC,nA,nS]
 repeat (first | (with_reducible first | refine W8 ?_ | refine VA rfl ?_) | ((with_reducible refine X8 fun K hK=>?_);simp (disch:=first | omega | simp only [sB];omega) only [qB,reduceIte,reduceCtorEq,iT,nA,nS,nM,iA,iS,iM,iN,fU,pB,oB,zB,LB,fB,AB,QC];subst hK))
 refine xB (fun (zz:Nat × (List UInt8) × Nat)=>⟨(aS s :: aS (ZC b) :: .junk :: .junk :: aS [] :: aS [] :: aS zz.2.1 :: aS (ZC zz.2.2) :: aI zz.1 :: L8 (J8 (J4 (.junk :: .junk :: .junk :: [])))),[]⟩) (fun (zz:Nat × (List UInt8) × Nat)=>zz.1 <= s.length /\ zz.2.1.length = zz.1 /\ (∀ x ∈ zz.2.1,jD x) /\ zz.2.2 < b /\ tv (s.take zz.1) = tv zz.2.1 * b + zz.2.2) (fun (zz:Nat × (List UInt8) × Nat)=>s.length - zz.1) (0,[],0) ?hI1 (TB.headA (EA _) [SA,SA,TA,TA,SA,SA,SA,SA,SA]) ?hB1
 ·dsimp only;exact ⟨by omega,rfl,by simp,hbp,by simp [tv,rv]⟩
 rintro ⟨i,out,r⟩ ⟨hi,hol,hdig,hr,hinv⟩
 dsimp only at hi hol hdig hr hinv
 have hrl:(ZC r).length <= (ZC b).length:=by
  refine Decidable.byContradiction fun h2=>?_
  have:=FJ (a:=b) (b:=r) (by omega)
  omega
 by_cases him:i = s.length
 ·have hcut:=WS out hdig (by omega)
  rw [him,List.take_length,hta] at hinv
  have hq:tv out = a / b:=by rw [hinv,Nat.add_comm,Nat.add_mul_div_right _ _ hbp,Nat.div_eq_of_lt hr,Nat.zero_add]
  have hm:r = a % b:=by rw [hinv,Nat.add_comm,Nat.add_mul_mod_self_right,Nat.mod_eq_of_lt hr]
  rw [hq] at hcut
  rw [<- hm]
  repeat (first | (with_reducible first | refine W8 ?_ | refine VA rfl ?_) | ((with_reducible refine X8 fun K hK=>?_);simp (disch:=first | omega | simp only [sB];omega) only [qB,reduceIte,reduceCtorEq,iT,nA,nS,nM,iA,iS,iM,iN,fU,pB,oB,zB,LB,fB,AB,QC];subst hK) | refine KB (hcut) rfl rfl rfl ?_)
  exact ⟨_,rfl,rfl⟩
 ·have hil:i < s.length:=by omega
  have hd:=hda _ (gA hil)
  have hs1:(List.take (i + 1) s).drop i = [s[i]]:=by
   rw [List.take_succ_eq_append_getElem hil,List.drop_append_of_le_length (by simp;omega),List.drop_eq_nil_of_le (by simp;omega)]
   rfl
  have hi1:((i:Int) + 1).toNat = i + 1:=by omega
  have hdd:∀ c ∈ ZC r ++ [s[i]],jD c:=fun c hc=>by
   rcases List.mem_append.1 hc with hc | hc
   ·exact ME r c hc
   ·rw [List.mem_singleton.1 hc];exact hd
  have hcut:=WS (ZC r ++ [s[i]]) hdd (by rw [sA,List.length_singleton];omega)
  rw [uT,qE] at hcut
  have htk:=tT s i hil
  unfold jD at hd
  generalize hR:10 * r + (s[i].toNat - 48) = R at *
  have hR10:R < 10 * b:=by omega
  repeat (first | (with_reducible first | refine W8 ?_ | refine VA rfl ?_) | ((with_reducible refine X8 fun K hK=>?_);simp (disch:=first | omega | simp only [sB];omega) only [qB,reduceIte,reduceCtorEq,iT,nA,nS,nM,iA,iS,iM,iN,fU,pB,oB,zB,LB,fB,AB,QC,hi1,hs1];subst hK) | refine KB (hcut) rfl rfl rfl ?_)
  refine xB (fun (zz:Nat × Nat)=>⟨(aS s :: aS (ZC b) :: .junk :: .junk :: aS [] :: aS [] :: aS out :: aS (ZC zz.2) :: aI i :: aI zz.1 :: L8 (J8 (J4 (.junk :: .junk :: [])))),[]⟩) (fun (zz:Nat × Nat)=>R = zz.1 * b + zz.2) (fun (zz:Nat × Nat)=>zz.2) (0,R) ?hI2 (TB.headA (EA _) [SA,SA,TA,TA,SA,SA,SA,SA,SA,SA]) ?hB2
  ·dsimp only;omega
  rintro ⟨n,q⟩ hq
  dsimp only at hq
  have hless:=tless_C q b
  have hn9:n <= 9:=by
   refine Decidable.byContradiction fun h=>?_
   have:10 * b <= n * b:=Nat.mul_le_mul_right _ (by omega)
   omega
  have hql:(ZC q).length <= (ZC b).length + 1:=by
   refine Decidable.byContradiction fun h2=>?_
   have h3:=eL (ME b)
   rw [qE] at h3
   have h4:q < 10 ^ ((ZC b).length + 1):=by rw [Nat.pow_succ];omega
   have:=EO h4 (by omega)
   omega
  by_cases hlt:q < b
  ·rw [show decide (q < b) = SA from by simp [hlt]] at hless
   have hsg:=vP n (by omega)
   repeat (first | (with_reducible first | refine W8 ?_ | refine VA rfl ?_) | ((with_reducible refine X8 fun K hK=>?_);simp (disch:=first | omega | simp only [sB];omega) only [qB,reduceIte,reduceCtorEq,iT,nA,nS,nM,iA,iS,iM,iN,fU,pB,oB,zB,LB,fB,AB,QC];subst hK) | refine KB (hless) rfl rfl rfl ?_ | refine KB (hsg) rfl rfl rfl ?_)
   refine ⟨(i + 1,out ++ [nU n],q),?hI3,?hM3,TB.headA (EA _) [SA,SA,TA,TA,SA,SA,SA,SA,SA]⟩
   ·dsimp only
    refine ⟨by omega,by simp [hol],fun c hc=>?_,hlt,?_⟩
    ·rcases List.mem_append.1 hc with hc | hc
     ·exact hdig c hc
     ·rw [List.mem_singleton.1 hc];exact pI (by omega)
    ·rw [htk,hinv,uT,TK (by omega),Nat.mul_add]
     have e:10 * (tv out * b) + 10 * r + (s[i].toNat - 48) = 10 * (tv out * b) + R:=by omega
     rw [e,hq,Nat.add_mul,Nat.mul_assoc]
     omega
   ·dsimp only;omega
  ·rw [show decide (q < b) = TA from by simp [hlt]] at hless
   have hsub:=tsub_C (ZC q) (ZC b) (ME q) (ME b) (by omega) (by omega) (by rw [qE,qE];omega)
   rw [qE,qE] at hsub
   repeat (first | (with_reducible first | refine W8 ?_ | refine VA rfl ?_) | ((with_reducible refine X8 fun K hK=>?_);simp (disch:=first | omega | simp only [sB];omega) only [qB,reduceIte,reduceCtorEq,iT,nA,nS,nM,iA,iS,iM,iN,fU,pB,oB,zB,LB,fB,AB,QC];subst hK) | refine KB (hless) rfl rfl rfl ?_ | refine KB (hsub) rfl rfl rfl ?_)
   refine ⟨(n + 1,q - b),?hI4,?hM4,TB.headA (EA _) [SA,SA,TA,TA,SA,SA,SA,SA,SA,SA]⟩
   ·dsimp only
    rw [Nat.add_mul]
    omega
   ·dsimp only;omega
abbrev c104_k1:CC:=(.seq (.reg [(mV 17 0),(mV 4 17)]) .ret)
abbrev c104_b1:CC:=(.seq (.seq (.reg [(mV 7 1),(oD 8 (.bin .neq (tP 7) (.const (.string ⟨#[48]⟩))))]) (.cond (tP 8) .skip (.exit 0))) (.block 1 (.seq (.reg [(mV 10 0),(mV 11 1),(oD 12 (.callf (.func 105) [(tP 10),(tP 11)])),(mV 9 12),(eX 13 9 0),(eX 14 9 1),(mV 5 13),(mV 6 14)]) (.seq (.reg [(mV 15 1),(mV 0 15)]) (.reg [(mV 16 6),(mV 1 16)])))))
abbrev c104:CC:=(.seq (.reg [(oD 4 (.mv (.const (.string ⟨#[]⟩))))]) (.seq (.block 0 (.loop c104_b1)) c104_k1))
theorem cc104:ZA Tryz.prog [] (Tryz.f104.body.getD .skip) = PA c104:=by kernel_rfl
theorem body104:Tryz.f104.body = PA (Tryz.f104.body.getD .skip):=rfl
theorem tgcd_C (a b:Nat) (ha:dJ a) (hb:dJ b):YA Tryz.prog 104 [aS (ZC a),aS (ZC b)] (.ret (aS (ZC (Nat.gcd a b)))):=by
 refine WA (rs:=[(RV.tmp 4)]) Tryz.func104 (fun a w=>Tryz.call104 a w) body104 cc104 (by kernel_rfl) ?_
 rw [Tryz.ntmps104]
 simp only [pC,nA,nS]
 repeat (first | (with_reducible first | refine W8 ?_ | refine VA rfl ?_) | ((with_reducible refine X8 fun K hK=>?_);simp (disch:=first | omega | simp only [sB];omega) only [qB,reduceIte,reduceCtorEq,iT,nA,nS,nM,iA,iS,iM,iN,fU,pB,oB,zB,LB,fB,AB,QC];subst hK))
 refine xB (fun (zz:Nat × Nat)=>⟨(aS (ZC zz.1) :: aS (ZC zz.2) :: .junk :: .junk :: aS [] :: J8 (J4 (.junk :: []))),[]⟩) (fun (zz:Nat × Nat)=>Nat.gcd zz.1 zz.2 = Nat.gcd a b /\ dJ zz.1 /\ dJ zz.2) (fun (zz:Nat × Nat)=>zz.2) (a,b) ?hI5 (TB.headA (EA _) [SA,SA,TA,TA,SA]) ?hB5
 ·exact ⟨rfl,ha,hb⟩
 rintro ⟨x,y⟩ ⟨hg,hx,hy⟩
 dsimp only at hg hx hy
 have hz:=xK y
 by_cases h0:y = 0
 ·rw [show decide (y = 0) = SA from by simp [h0]] at hz
  repeat (first | (with_reducible first | refine W8 ?_ | refine VA rfl ?_) | ((with_reducible refine X8 fun K hK=>?_);simp (disch:=first | omega | simp only [sB];omega) only [qB,reduceIte,reduceCtorEq,iT,nA,nS,nM,iA,iS,iM,iN,fU,pB,oB,zB,LB,fB,AB,QC,hz];subst hK))
  refine ⟨_,rfl,?_⟩
  rw [<- hg,h0,Nat.gcd_zero_right]
  exact rfl
 ·rw [show decide (y = 0) = TA from by simp [h0]] at hz
  have hdm:=VM x y hx hy h0
  repeat (first | (with_reducible first | refine W8 ?_ | refine VA rfl ?_) | ((with_reducible refine X8 fun K hK=>?_);simp (disch:=first | omega | simp only [sB];omega) only [qB,reduceIte,reduceCtorEq,iT,nA,nS,nM,iA,iS,iM,iN,fU,pB,oB,zB,LB,fB,AB,QC,hz];subst hK) | refine KB (hdm) rfl rfl rfl ?_)
  refine ⟨(y,x % y),?hI6,?hM6,TB.headA (EA _) [SA,SA,TA,TA,SA]⟩
  ·dsimp only
   exact ⟨by rw [oW,hg],hy,hy.le (Nat.le_of_lt (Nat.mod_lt _ (Nat.pos_of_ne_zero h0)))⟩
  ·dsimp only;exact Nat.mod_lt _ (Nat.pos_of_ne_zero h0)
theorem II {n L:Nat} (h:(DB n).length <= L) (hL:L <= 100000000):(ZC n).length <= 10 * L + 1 /\ dJ n:=by
 have:=XO h
 exact ⟨this,by unfold dJ;omega⟩
theorem val_nil:val [] = 0:=rfl
theorem dec_nil:ZC 0 = [48]:=rfl
abbrev c59_k1:CC:=(.seq (.reg [(mV 34 3),(mV 2 34)]) .ret)
abbrev c59_k2:CC:=(.reg [(mV 12 4),(bC 13 .sub 12 1),(mV 4 13)])
abbrev c59_k3:CC:=(.reg [(mV 30 3),(mV 31 6),(oD 32 (.callf (.func 102) [(tP 31)])),(oD 33 (.callf (.func 101) [(tP 30),(tP 32)])),(mV 3 33)])
abbrev c59_b1:CC:=(.seq (.seq (.reg [(mV 20 5),(oD 21 (.bin .gtr (tP 20) (.const (.int .u32 (0)))))]) (.cond (tP 21) .skip (.exit 2))) (.block 3 (.seq (.reg [(mV 22 5),(oD 23 (.bin .rem (tP 22) (.const (.int .u32 (10))))),(oD 24 (.conv .i64 (tP 23))),(oD 25 (.callf (.func 100) [(tP 24)])),(mV 26 6),(bB 27 .add 25 26),(mV 6 27)]) (.reg [(mV 28 5),(oD 29 (.bin .quo (tP 28) (.const (.int .u32 (10))))),(mV 5 29)]))))
abbrev c59_b2:CC:=(.seq (.seq (.reg [(mV 10 4),(bC 11 .geq 10 0)]) (.cond (tP 11) .skip (.exit 0))) (.seq (.block 1 (.seq (.reg [(mV 14 3),(oD 15 (.callf (.func 99) [(tP 14),(.const wStr)])),(mV 3 15)]) (.seq (.reg [(mV 16 0),(mV 17 4),(xA 18 1 16 17),(lF 19 1 18),(mV 5 19)]) (.seq (.reg [(oD 6 (.mv (.const (.string ⟨#[]⟩))))]) (.seq (.block 2 (.loop c59_b1)) c59_k3))))) c59_k2))
abbrev c59:CC:=(.seq (.reg [(oD 2 (.mv (.const (.string ⟨#[]⟩))))]) (.seq (.reg [(oD 3 (.mv (.const (.string ⟨#[48]⟩))))]) (.seq (.seq (.reg [(mV 7 0),(nL 8 7),(bC 9 .sub 8 1),(mV 4 9)]) (.block 0 (.loop c59_b2))) c59_k1)))
theorem cc59:ZA Tryz.prog [] (Tryz.f59.body.getD .skip) = PA c59:=by kernel_rfl
theorem body59:Tryz.f59.body = PA (Tryz.f59.body.getD .skip):=rfl
theorem tof_C (a:iG) (ha:(UA a).length <= 10000000):YA Tryz.prog 59 [aN a] (.ret (aS (ZC a.val))):=by
 refine WA (rs:=[(RV.tmp 2)]) Tryz.func59 (fun a w=>Tryz.call59 a w) body59 cc59 (by kernel_rfl) ?_
 rw [Tryz.ntmps59]
 simp only [pC,nA,nS]
 repeat (first | (with_reducible first | refine W8 ?_ | refine VA rfl ?_) | ((with_reducible refine X8 fun K hK=>?_);simp (disch:=first | omega | simp only [sB];omega) only [qB,reduceIte,reduceCtorEq,iT,nA,nS,nM,iA,iS,iM,iN,fU,pB,oB,zB,LB,fB,AB,QC];subst hK))
 refine xB (fun (zz:Nat)=>⟨(aN a :: .junk :: aS [] :: aS (ZC (val ((UA a).drop zz))) :: aI ((zz:Int) - 1) :: L8 (J8 (J4 (.junk :: .junk :: [])))),[]⟩) (fun (zz:Nat)=>zz <= (UA a).length) (fun (zz:Nat)=>zz) ((UA a).length) ?hI7 (TB.head (EA _) [SA,TA,SA,SA,SA] ?hT7 ?hH7) ?hB7
 case hT7 | hH7=>first | (simp (disch:=omega) only [pD,IB,lB,XA,clean1,uB,reduceIte,iS,iA,iN,List.drop_length,val_nil,dec_nil];done) | rfl
 ·exact EA _
 intro k hk
 cases k with
 | zero =>
  have e:ZC (val ((UA a).drop 0)) = ZC a.val:=rfl
  rw [e]
  repeat (first | (with_reducible first | refine W8 ?_ | refine VA rfl ?_) | ((with_reducible refine X8 fun K hK=>?_);simp (disch:=first | omega | simp only [sB];omega) only [qB,reduceIte,reduceCtorEq,iT,nA,nS,nM,iA,iS,iM,iN,fU,pB,oB,zB,LB,fB,AB,QC];subst hK))
  exact ⟨_,rfl,rfl⟩
 | succ k =>
  have hk1:((k + 1:Nat):Int) - 1 = (k:Int):=by omega
  have hv:=ZL (UA a) k (by omega)
  have hlt:=(UA a)[k].toNat_lt
  have hl1:(DB (val ((UA a).drop (k + 1)))).length <= 10000000:=GA (fC (IE _)) (by simp;omega)
  obtain ⟨s1,s2⟩:=II hl1 (by decide)
  have hmul:=tmul_C (ZC (val ((UA a).drop (k + 1)))) (ZC 4294967296) (ME _) (ME _) (by omega) (by rw [xN];decide)
  rw [qE,qE,xN] at hmul
  obtain ⟨x,hx⟩:∃ x,x = (UA a)[k]:=⟨_,rfl⟩
  have hxv:(UA a)[k].toNat = x.toNat:=by rw [hx]
  rw [hxv] at hv hlt
  have hl2:(DB (val ((UA a).drop (k + 1)) * 4294967296)).length <= 10000001:=by
   have h1:=uC (val ((UA a).drop (k + 1))) 4294967296
   have h2:(DB 4294967296).length <= 2:=fC (by decide)
   have h3:(DB (val ((UA a).drop (k + 1)))).length <= (UA a).length - (k + 1):=fC (by
    have:=IE ((UA a).drop (k + 1))
    simpa using this)
   omega
  obtain ⟨s3,s4⟩:=II hl2 (by decide)
  have hVk:val ((UA a).drop k) = val ((UA a).drop (k + 1)) * 4294967296 + x.toNat:=by rw [hv];omega
  generalize val ((UA a).drop (k + 1)) = H at *
  generalize hN:x.toNat = N at *
  repeat (first | (with_reducible first | refine W8 ?_ | refine VA rfl ?_) | ((with_reducible refine X8 fun K hK=>?_);simp (disch:=first | omega | simp only [sB];omega) only [qB,reduceIte,reduceCtorEq,iT,nA,nS,nM,iA,iS,iM,iN,fU,pB,oB,zB,LB,fB,AB,QC,hk1,hxv];subst hK) | refine KB (hmul) rfl rfl rfl ?_)
  refine xB (fun (zz:Nat × (List UInt8))=>⟨(aN a :: .junk :: aS [] :: aS (ZC (H * 4294967296)) :: aI k :: YR zz.1 :: aS zz.2 :: L8 (J8 (J4 ([])))),[]⟩) (fun (zz:Nat × (List UInt8))=>zz.1 <= N /\ (∀ c ∈ zz.2,jD c) /\ tv zz.2 + 10 ^ zz.2.length * zz.1 = N /\ zz.2.length <= 11) (fun (zz:Nat × (List UInt8))=>zz.1) (N,[]) ?hI8 (TB.headA (EA _) [SA,TA,SA,SA,SA,SA,SA]) ?hB8
  ·dsimp only;exact ⟨EA _,by simp,by simp [tv,rv],by simp⟩
  rintro ⟨n,u⟩ ⟨hn,hdig,hu,hul⟩
  dsimp only at hn hdig hu hul
  by_cases h0:n = 0
  ·have hcut:=WS u hdig (by omega)
   rw [h0,Nat.mul_zero,Nat.add_zero] at hu
   rw [hu] at hcut
   have hNl:(DB N).length <= 1:=fC (by omega)
   obtain ⟨s5,s6⟩:=II hNl (by decide)
   have hadd:=tadd_C (ZC (H * 4294967296)) (ZC N) (ME _) (ME _) (by omega) (by omega)
   rw [qE,qE,<- hVk] at hadd
   repeat (first | (with_reducible first | refine W8 ?_ | refine VA rfl ?_) | ((with_reducible refine X8 fun K hK=>?_);simp (disch:=first | omega | simp only [sB];omega) only [qB,reduceIte,reduceCtorEq,iT,nA,nS,nM,iA,iS,iM,iN,fU,pB,oB,zB,LB,fB,AB,QC];subst hK) | refine KB (hcut) rfl rfl rfl ?_ | refine KB (hadd) rfl rfl rfl ?_)
   refine ⟨(k),?hI9,?hM9,TB.headA (EA _) [SA,TA,SA,SA,SA]⟩
   ·omega
   ·omega
  ·have hul9:u.length <= 9:=by
    refine Decidable.byContradiction fun h=>?_
    have h1:10 ^ u.length * 1 <= 10 ^ u.length * n:=Nat.mul_le_mul_left _ (by omega)
    have h2:(10:Nat) ^ 10 <= 10 ^ u.length:=Nat.pow_le_pow_right (by decide) (by omega)
    simp at h2
    omega
   have hdm:n % 10 < 10:=Nat.mod_lt _ (by decide)
   have hsg:=vP _ hdm
   have hr:(n:Int).tmod 10 = ((n % 10:Nat):Int):=by rw [gJ (by omega)];simp
   have hq:(n:Int).tdiv 10 = ((n / 10:Nat):Int):=by rw [iJ (by omega)];simp
   repeat (first | (with_reducible first | refine W8 ?_ | refine VA rfl ?_) | ((with_reducible refine X8 fun K hK=>?_);simp (disch:=first | omega | simp only [sB];omega) only [qB,reduceIte,reduceCtorEq,iT,nA,nS,nM,iA,iS,iM,iN,fU,pB,oB,zB,LB,fB,AB,QC,hr,hq,wu32];subst hK) | refine KB (hsg) rfl rfl rfl ?_)
   refine ⟨(n / 10,nU (n % 10) :: u),?hI10,?hM10,TB.headA (EA _) [SA,TA,SA,SA,SA,SA,SA]⟩
   ·dsimp only
    refine ⟨by omega,?_,?_,by simp;omega⟩
    ·intro c hc
     rcases List.mem_cons.1 hc with rfl | hc
     ·exact pI hdm
     ·exact hdig c hc
    ·rw [gI,TK hdm,oA,Nat.pow_succ,Nat.mul_assoc,Nat.add_assoc,<- Nat.mul_add,Nat.mod_add_div]
     exact hu
   ·dsimp only;omega
end Go.Proofs.YtncgbjhojbnecaaGreat
namespace Go.Proofs.YtncgbjhojbnecaaGreat
open Go Go.Am Go.Proofs Go.Off
open Nat renaming reduceAdd -> nA,reduceSub -> nS,reduceMul -> nM,reduceBEq -> nB
open Int renaming reduceToNat -> iT,reduceAdd -> iA,reduceSub -> iS,reduceMul -> iM,reduceNeg -> iN
theorem XQ (n:Nat):∃ c t,ZC n = c :: t /\ c.toNat ≠ 45:=by
 cases h:ZC n with
 | nil=>exact absurd h (XE n)
 | cons c t =>
  refine ⟨c,t,rfl,?_⟩
  have:=ME n c (by rw [h];simp)
  unfold jD at this
  omega
theorem QH {z:Int} (h:z < 0):cI z = 45 :: ZC z.natAbs:=by unfold cI;rw [if_pos h]
theorem IG {z:Int} (h:¬ z < 0):cI z = ZC z.natAbs:=by unfold cI;rw [if_neg h]
abbrev c103:CC:=(.seq (.reg [(mB 2 TA)]) (.seq (.reg [(mV 3 0),(oD 4 (.sidx (tP 3) (.const (.int .i64 (0))))),(oD 5 (.bin .eql (tP 4) (.const (.int .u8 (45))))),(mV 2 5)]) .ret))
theorem cc103:ZA Tryz.prog [] (Tryz.f103.body.getD .skip) = PA c103:=by kernel_rfl
theorem O0:Tryz.f103.body = PA (Tryz.f103.body.getD .skip):=rfl
theorem below_C (z:Int):YA Tryz.prog 103 [aS (cI z)] (.ret (aB (decide (z < 0)))):=by
 by_cases h:z < 0
 ·rw [QH h,show decide (z < 0) = SA from by simp [h]]
  refine WA (rs:=[(RV.tmp 2)]) Tryz.func103 (fun a w=>Tryz.call103 a w) O0 cc103 (by kernel_rfl) ?_
  rw [Tryz.ntmps103]
  simp only [pC,nA,nS]
  repeat (first | (with_reducible first | refine W8 ?_ | refine VA rfl ?_) | ((with_reducible refine X8 fun K hK=>?_);simp (disch:=first | omega | simp only [sB];omega) only [qB,reduceIte,reduceCtorEq,iT,nA,nS,nM,iA,iS,iM,iN,fU,pB,oB,zB,LB,fB,AB,List.take_length];subst hK))
  exact ⟨_,rfl,rfl⟩
 ·obtain ⟨c,t,h1,h2⟩:=XQ z.natAbs
  rw [IG h,show decide (z < 0) = TA from by simp [h],h1]
  refine WA (rs:=[(RV.tmp 2)]) Tryz.func103 (fun a w=>Tryz.call103 a w) O0 cc103 (by kernel_rfl) ?_
  rw [Tryz.ntmps103]
  simp only [pC,nA,nS]
  repeat (first | (with_reducible first | refine W8 ?_ | refine VA rfl ?_) | ((with_reducible refine X8 fun K hK=>?_);simp (disch:=first | omega | simp only [sB];omega) only [qB,reduceIte,reduceCtorEq,iT,nA,nS,nM,iA,iS,iM,iN,fU,pB,oB,zB,LB,fB,AB,List.take_length];subst hK))
  exact ⟨_,rfl,rfl⟩
abbrev c61:CC:=(.seq (.reg [(oD 4 (.mv (.const (.string ⟨#[]⟩))))]) (.seq (.seq (.reg [(mV 5 0),(mV 6 5),(gM 7 6 SA 1),(oG 8 6 SA (.bin .neq (tP 7) (.const (.string ⟨#[48]⟩)))),(pF 9 6 8)]) (.cond (tP 9) (.seq (.reg [(mV 10 1),(oD 11 (.bin .add (.const (.string ⟨#[45]⟩)) (tP 10))),(mV 4 11)]) .ret) .skip)) (.seq (.reg [(mV 12 1),(mV 4 12)]) .ret)))
theorem cc61:ZA Tryz.prog [] (Tryz.f61.body.getD .skip) = PA c61:=by kernel_rfl
theorem TY:Tryz.f61.body = PA (Tryz.f61.body.getD .skip):=rfl
theorem WX (m:Bool) (n:Nat) (z:Int) (hz:z = if m = SA then -(n:Int) else (n:Int)) (hn:(ZC n).length <= 100000000000):YA Tryz.prog 61 [aB m,aS (ZC n)] (.ret (aS (cI z))):=by
 have hq:=xK n
 cases m with
 | false =>
  rw [if_neg (by decide)] at hz
  rw [IG (by omega),show z.natAbs = n by omega]
  refine WA (rs:=[(RV.tmp 4)]) Tryz.func61 (fun a w=>Tryz.call61 a w) TY cc61 (by kernel_rfl) ?_
  rw [Tryz.ntmps61]
  simp only [pC,nA,nS]
  repeat (first | (with_reducible first | refine W8 ?_ | refine VA rfl ?_) | ((with_reducible refine X8 fun K hK=>?_);simp (disch:=first | omega | simp only [sB];omega) only [qB,reduceIte,reduceCtorEq,iT,nA,nS,nM,iA,iS,iM,iN,fU,pB,oB,zB,LB,fB,AB,List.take_length];subst hK))
  exact ⟨_,rfl,rfl⟩
 | true =>
  rw [if_pos rfl] at hz
  by_cases h0:n = 0
  ·rw [show decide (n = 0) = SA from by simp [h0]] at hq
   rw [IG (by omega),show z.natAbs = n by omega]
   refine WA (rs:=[(RV.tmp 4)]) Tryz.func61 (fun a w=>Tryz.call61 a w) TY cc61 (by kernel_rfl) ?_
   rw [Tryz.ntmps61]
   simp only [pC,nA,nS]
   repeat (first | (with_reducible first | refine W8 ?_ | refine VA rfl ?_) | ((with_reducible refine X8 fun K hK=>?_);simp (disch:=first | omega | simp only [sB];omega) only [qB,reduceIte,reduceCtorEq,iT,nA,nS,nM,iA,iS,iM,iN,fU,pB,oB,zB,LB,fB,AB,List.take_length,hq];subst hK))
   exact ⟨_,rfl,rfl⟩
  ·rw [show decide (n = 0) = TA from by simp [h0]] at hq
   rw [QH (by omega),show z.natAbs = n by omega]
   refine WA (rs:=[(RV.tmp 4)]) Tryz.func61 (fun a w=>Tryz.call61 a w) TY cc61 (by kernel_rfl) ?_
   rw [Tryz.ntmps61]
   simp only [pC,nA,nS]
   repeat (first | (with_reducible first | refine W8 ?_ | refine VA rfl ?_) | ((with_reducible refine X8 fun K hK=>?_);simp (disch:=first | omega | simp only [sB];omega) only [qB,reduceIte,reduceCtorEq,iT,nA,nS,nM,iA,iS,iM,iN,fU,pB,oB,zB,LB,fB,AB,List.take_length,hq];subst hK))
   exact ⟨_,rfl,rfl⟩
end Go.Proofs.YtncgbjhojbnecaaGreat
namespace Go.Proofs.YtncgbjhojbnecaaGreat
open Go Go.Am Go.Proofs Go.Off
open Nat renaming reduceAdd -> nA,reduceSub -> nS,reduceMul -> nM,reduceBEq -> nB
open Int renaming reduceToNat -> iT,reduceAdd -> iA,reduceSub -> iS,reduceMul -> iM,reduceNeg -> iN
abbrev aQ (q:Rat):AV:=.agg [.c (.str (cI q.num)),.c (.str (ZC q.den))]
abbrev c60:CC:=(.seq (.reg [(oD 4 (.new 65 [(.string ⟨#[]⟩),(.string ⟨#[]⟩)]))]) (.seq (.reg [(mV 11 0),(mV 5 11)]) (.seq (.seq (.reg [(mV 12 0),(oD 13 (.callf (.func 103) [(tP 12)]))]) (.cond (tP 13) (.reg [(mV 14 0),(oD 15 (.sslice (tP 14) (PA (.const (.int .i64 (1)))) QA)),(mV 5 15)]) .skip)) (.seq (.reg [(mV 16 5),(mV 17 1),(oD 18 (.callf (.func 104) [(tP 16),(tP 17)])),(mV 6 18)]) (.seq (.reg [(mV 20 5),(mV 21 6),(oD 22 (.callf (.func 105) [(tP 20),(tP 21)])),(mV 19 22),(eX 23 19 0),(eX 24 19 1),(mV 7 23),(mV 8 24)]) (.seq (.reg [(mV 26 1),(mV 27 6),(oD 28 (.callf (.func 105) [(tP 26),(tP 27)])),(mV 25 28),(eX 29 25 0),(eX 30 25 1),(mV 9 29),(mV 10 30)]) (.seq (.reg [(mV 31 0),(oD 32 (.callf (.func 103) [(tP 31)])),(mV 33 7),(oD 34 (.callf (.func 61) [(tP 32),(tP 33)])),(mV 35 9),(oD 36 (.build [(.string ⟨#[]⟩),(.string ⟨#[]⟩)] [(0,(1,(tP 34))),(1,(1,(tP 35)))])),(sT 2 4 36)]) .ret)))))))
theorem cc60:ZA Tryz.prog [] (Tryz.f60.body.getD .skip) = PA c60:=by kernel_rfl
theorem N7:Tryz.f60.body = PA (Tryz.f60.body.getD .skip):=rfl
theorem low_C (n:Int) (d:Nat) (hd:d ≠ 0) (hn:(DB n.natAbs).length <= 90000000) (hl:(DB d).length <= 90000000):YA Tryz.prog 60 [aS (cI n),aS (ZC d)] (.ret (aQ (mkRat n d))):=by
 have hb:=below_C n
 obtain ⟨l1,s1⟩:=II hn (by decide)
 obtain ⟨l2,s2⟩:=II hl (by decide)
 have hg:=tgcd_C n.natAbs d s1 s2
 have hgp:Nat.gcd n.natAbs d ≠ 0:=fun e=>hd (Nat.eq_zero_of_gcd_eq_zero_right e)
 have hgl:(ZC (Nat.gcd n.natAbs d)).length <= 10000000000:=s2.le (Nat.gcd_le_right _ (Nat.pos_of_ne_zero hd))
 have hd1:=VM n.natAbs (Nat.gcd n.natAbs d) s1 hgl hgp
 have hd2:=VM d (Nat.gcd n.natAbs d) s2 hgl hgp
 have e1:=bW n d hd
 have e2:=AQ n d hd
 have e3:=c6 n d hd
 have hz:ZC (n.natAbs / Nat.gcd n.natAbs d) = ZC (mkRat n d).num.natAbs:=by rw [e1]
 have l3:(ZC (mkRat n d).num.natAbs).length <= 100000000000:=by
  rw [e1];have:=s1.le (Nat.div_le_self n.natAbs (Nat.gcd n.natAbs d));unfold dJ at this;omega
 rw [hz] at hd1
 rw [show ZC (d / Nat.gcd n.natAbs d) = ZC (mkRat n d).den from by rw [e2]] at hd2
 by_cases h:n < 0
 ·have hq:=e3.2 h
  have hm:=WX SA (mkRat n d).num.natAbs (mkRat n d).num (by rw [if_pos rfl];omega) l3
  rw [show decide (n < 0) = SA from by simp [h]] at hb
  rw [QH h] at hb ⊢
  have hm2:=hm
  clear e1 e2 e3
  generalize ZC (mkRat n d).num.natAbs = u at *
  generalize ZC (n.natAbs % _) = r1 at *
  generalize ZC (d % _) = r2 at *
  generalize ZC (Nat.gcd n.natAbs d) = g at *
  refine WA (rs:=[(RV.cell 4 2 SA)]) Tryz.func60 (fun a w=>Tryz.call60 a w) N7 cc60 (by kernel_rfl) ?_
  rw [Tryz.ntmps60]
  simp only [pC,nA,nS]
  repeat (first | (with_reducible first | refine W8 ?_ | refine VA rfl ?_) | ((with_reducible refine X8 fun K hK=>?_);simp (disch:=first | omega | simp only [sB];omega) only [qB,reduceIte,reduceCtorEq,iT,nA,nS,nM,iA,iS,iM,iN,fU,pB,oB,zB,LB,fB,AB,List.take_length];subst hK) | refine KB (hb) rfl rfl rfl ?_ | refine KB (hg) rfl rfl rfl ?_ | refine KB (hd1) rfl rfl rfl ?_ | refine KB (hd2) rfl rfl rfl ?_ | refine KB (hm) rfl rfl rfl ?_)
  exact ⟨_,rfl,rfl⟩
 ·have hq:¬ (mkRat n d).num < 0:=fun h2=>h (e3.1 h2)
  have hm:=WX TA (mkRat n d).num.natAbs (mkRat n d).num (by rw [if_neg (by decide)];omega) l3
  rw [show decide (n < 0) = TA from by simp [h]] at hb
  rw [IG h] at hb ⊢
  have hm2:=hm
  clear e1 e2 e3
  generalize ZC (mkRat n d).num.natAbs = u at *
  generalize ZC (n.natAbs % _) = r1 at *
  generalize ZC (d % _) = r2 at *
  generalize ZC (Nat.gcd n.natAbs d) = g at *
  refine WA (rs:=[(RV.cell 4 2 SA)]) Tryz.func60 (fun a w=>Tryz.call60 a w) N7 cc60 (by kernel_rfl) ?_
  rw [Tryz.ntmps60]
  simp only [pC,nA,nS]
  repeat (first | (with_reducible first | refine W8 ?_ | refine VA rfl ?_) | ((with_reducible refine X8 fun K hK=>?_);simp (disch:=first | omega | simp only [sB];omega) only [qB,reduceIte,reduceCtorEq,iT,nA,nS,nM,iA,iS,iM,iN,fU,pB,oB,zB,LB,fB,AB,List.take_length];subst hK) | refine KB (hb) rfl rfl rfl ?_ | refine KB (hg) rfl rfl rfl ?_ | refine KB (hd1) rfl rfl rfl ?_ | refine KB (hd2) rfl rfl rfl ?_ | refine KB (hm) rfl rfl rfl ?_)
  exact ⟨_,rfl,rfl⟩
theorem wY (b:Nat):(ZC b == [49]) = decide (b = 1):=by
 by_cases h:b = 1
 ·subst h;have:ZC 1 = [49]:=by have h:=kU (s:=[49]) (by simp) (by simp [jD]) (by simp);rwa [show tv [49] = 1 from by decide] at h
  rw [this];rfl
 ·have:ZC b ≠ [49]:=fun e=>h (by rw [<- qE b,e];rfl)
  simp [h,this]
abbrev c24:CC:=(.seq (.reg [(oD 1 (.box 48 (tP 0))),(oD 2 (.new 65 [(.string ⟨#[]⟩),(.string ⟨#[]⟩)]))]) (.seq (.reg [(fA 4 2 1),(lF 5 1 4),(oD 6 (.callf (.func 59) [(tP 5)])),(mV 3 6)]) (.seq (.seq (.reg [(mV 7 3),(oD 8 (.bin .eql (tP 7) (.const (.string ⟨#[48]⟩))))]) (.cond (tP 8) (.reg [(oD 3 (.mv (.const (.string ⟨#[49]⟩))))]) .skip)) (.seq (.reg [(fA 9 0 1),(fA 10 0 9),(lF 11 1 10),(fA 12 0 1),(fA 13 1 12),(lF 14 1 13),(oD 15 (.callf (.func 59) [(tP 14)])),(oD 16 (.callf (.func 61) [(tP 11),(tP 15)])),(mV 17 3),(oD 18 (.callf (.func 60) [(tP 16),(tP 17)])),(sT 2 2 18)]) .ret))))
theorem cc24:ZA Tryz.prog [] (Tryz.f24.body.getD .skip) = PA c24:=by kernel_rfl
theorem U7:Tryz.f24.body = PA (Tryz.f24.body.getD .skip):=rfl
theorem lof_C (r:RR) (h:vD r 9000000):YA Tryz.prog 24 [aR r] (.ret (aQ r.val)):=by
 have h1:=h.1;have h2:=h.2
 have o1:=tof_C r.den (by omega)
 have o2:=tof_C r.size (by omega)
 have s1:=XD r.size
 have s2:=XD r.den
 have hl:=(II (GA s1 h1) (by decide)).1
 have hm:=WX r.minus r.size.val r.top rfl (by omega)
 have hlow:=low_C r.top r.bot r.bot_ne (by have:=h.top;omega) (by have:=h.bot (by decide);omega)
 have hz:=xK r.den.val
 change YA _ _ _ (.ret (aQ r.val)) at hlow
 unfold RR.bot at hlow
 generalize cI r.top = t at *
 generalize cI r.val.num = x at *
 generalize ZC r.val.den = y at *
 by_cases h0:r.den.val = 0
 ·rw [show decide (r.den.val = 0) = SA from by simp [h0]] at hz
  rw [if_pos h0,show ZC 1 = [49] from by have h:=wY 1;simpa using h] at hlow
  refine WA (rs:=[(RV.cell 2 2 SA)]) Tryz.func24 (fun a w=>Tryz.call24 a w) U7 cc24 (by kernel_rfl) ?_
  rw [Tryz.ntmps24]
  simp only [pC,nA,nS]
  repeat (first | (with_reducible first | refine W8 ?_ | refine VA rfl ?_) | ((with_reducible refine X8 fun K hK=>?_);simp (disch:=first | omega | simp only [sB];omega) only [qB,reduceIte,reduceCtorEq,iT,nA,nS,nM,iA,iS,iM,iN,fU,pB,oB,zB,LB,fB,AB,List.take_length,hz];subst hK) | refine KB (o1) rfl rfl rfl ?_ | refine KB (o2) rfl rfl rfl ?_ | refine KB (hm) rfl rfl rfl ?_ | refine KB (hlow) rfl rfl rfl ?_)
  exact ⟨_,rfl,rfl⟩
 ·rw [show decide (r.den.val = 0) = TA from by simp [h0]] at hz
  rw [if_neg h0] at hlow
  refine WA (rs:=[(RV.cell 2 2 SA)]) Tryz.func24 (fun a w=>Tryz.call24 a w) U7 cc24 (by kernel_rfl) ?_
  rw [Tryz.ntmps24]
  simp only [pC,nA,nS]
  repeat (first | (with_reducible first | refine W8 ?_ | refine VA rfl ?_) | ((with_reducible refine X8 fun K hK=>?_);simp (disch:=first | omega | simp only [sB];omega) only [qB,reduceIte,reduceCtorEq,iT,nA,nS,nM,iA,iS,iM,iN,fU,pB,oB,zB,LB,fB,AB,List.take_length,hz];subst hK) | refine KB (o1) rfl rfl rfl ?_ | refine KB (o2) rfl rfl rfl ?_ | refine KB (hm) rfl rfl rfl ?_ | refine KB (hlow) rfl rfl rfl ?_)
  exact ⟨_,rfl,rfl⟩
theorem c7 {a b:Int} (h:cI a = cI b):a = b:=by
 by_cases h1:a < 0 <;> by_cases h2:b < 0
 ·rw [QH h1,QH h2,List.cons.injEq] at h
  have:=lU h.2;omega
 ·rw [QH h1,IG h2] at h
  obtain ⟨c,t,e1,e2⟩:=XQ b.natAbs
  rw [e1,List.cons.injEq] at h
  exact absurd (by rw [<- h.1];rfl) e2
 ·rw [IG h1,QH h2] at h
  obtain ⟨c,t,e1,e2⟩:=XQ a.natAbs
  rw [e1,List.cons.injEq] at h
  exact absurd (by rw [h.1];rfl) e2
 ·rw [IG h1,IG h2] at h
  have:=lU h;omega
theorem IX (a b:Rat):([cI a.num,ZC a.den] == [cI b.num,ZC b.den]) = decide (a = b):=by
 by_cases h:a = b
 ·subst h;simp
 ·have:¬ ([cI a.num,ZC a.den] = [cI b.num,ZC b.den]):=fun e=>by
   simp only [List.cons.injEq,and_true] at e
   exact h (Rat.ext (c7 e.1) (lU e.2))
  simp only [h,decide_false]
  exact beq_eq_false_iff_ne.2 this
abbrev c22:CC:=(.seq (.reg [(oD 2 (.box 48 (tP 0))),(oD 3 (.box 65 (tP 1))),(mB 4 TA)]) (.seq (.reg [(fA 5 2 2),(lF 6 1 5),(nL 7 6),(bC 8 .gtr 7 0),(mV 9 8),(oG 10 9 SA (.load 3 SA (tP 2))),(oG 11 9 SA (.callf (.func 58) [(tP 10)])),(pF 12 9 11),(mV 13 12),(oG 14 13 SA (.load 3 SA (tP 2))),(oG 15 13 SA (.callf (.func 24) [(tP 14)])),(oG 16 13 SA (.load 2 SA (tP 3))),(oG 17 13 SA (.aggeq TA 2 (tP 15) (tP 16))),(pF 18 13 17),(mV 4 18)]) .ret))
theorem cc22:ZA Tryz.prog [] (Tryz.f22.body.getD .skip) = PA c22:=by kernel_rfl
theorem body22:Tryz.f22.body = PA (Tryz.f22.body.getD .skip):=rfl
theorem is_C (a b:Rat) (h:SB a 9000000):YA Tryz.prog 22 [aR (eB a),aQ b] (.ret (aB (decide (a = b)))):=by
 have hr:=r5 a (h.mono (by decide))
 have ho:=lof_C (eB a) (QB h)
 rw [rawQ_val] at ho
 have hl:(UA (eB a).den).length ≠ 0:=by show (UA (iC a.den)).length ≠ 0;rw [xD];exact Nat.ne_of_gt (VE a.den_nz)
 have he:=IX a b
 generalize eB a = r at *
 generalize decide (a = b) = e at *
 refine WA (rs:=[(RV.tmp 4)]) Tryz.func22 (fun a w=>Tryz.call22 a w) body22 cc22 (by kernel_rfl) ?_
 rw [Tryz.ntmps22]
 simp only [pC,nA,nS]
 repeat (first | (with_reducible first | refine W8 ?_ | refine VA rfl ?_) | ((with_reducible refine X8 fun K hK=>?_);simp (disch:=first | omega | simp only [sB];omega) only [qB,reduceIte,reduceCtorEq,iT,nA,nS,nM,iA,iS,iM,iN,fU,pB,oB,zB,LB,fB,AB,List.take_length,LD,he];subst hK) | refine UJ (hr) ?_ | refine UJ (ho) ?_)
 exact ⟨_,rfl,rfl⟩
open Go Go.Am Go.Proofs Go.RowKit Go.Off
open Nat renaming reduceAdd -> nA,reduceSub -> nS,reduceMul -> nM,reduceBEq -> nB
open Int renaming reduceToNat -> iT,reduceAdd -> iA,reduceSub -> iS,reduceMul -> iM,reduceNeg -> iN
def UL (vs:List Int) (row X:VV):Nat -> Rat
 | 0=>0
 | i + 1=>UL vs row X i + (atR row (vs.getD i 0)).val * jE X i
theorem sh_wt (vs:List Int) (row X:VV):∀ i,wL vs row X i = UL vs row X (min i vs.length)
 | 0=>by rw [Nat.zero_min];rfl
 | i + 1=>by
  have ih:=sh_wt vs row X i
  show (if xP vs row i then wL vs row X i + jE row (vs.getD i 0).toNat * jE X i else wL vs row X i) = _
  by_cases h:i < vs.length
  ·rw [Nat.min_eq_left (by omega)] at ih
   rw [Nat.min_eq_left (by omega)]
   show _ = UL vs row X i + (atR row (vs.getD i 0)).val * jE X i
   rw [ih]
   unfold xP atR
   rw [decide_eq_true h,Bool.true_and]
   by_cases h2:0 <= vs.getD i 0 /\ vs.getD i 0 < (UA row).length
   ·rw [if_pos h2,decide_eq_true h2.1,decide_eq_true h2.2,if_pos (show (SA && SA) = SA from rfl)];rfl
   ·rw [if_neg h2,rawQ_val,Rat.zero_mul,Rat.add_zero,if_neg]
    intro h3
    simp only [JA,decide_eq_true_eq] at h3
    exact h2 h3
  ·rw [Nat.min_eq_right (by omega)] at ih
   rw [Nat.min_eq_right (by omega)]
   have hs:xP vs row i = TA:=by unfold xP;rw [decide_eq_false h];rfl
   rw [hs,if_neg (by simp),ih]
theorem bZ {vs:List Int} {row X:VV} {n L:Nat} (hr:vC row n L) (hX:vC X n L) (hL:1 <= L):∀ i,SB (UL vs row X i) (i * (2 * L + 1) + 1)
 | 0=>by rw [Nat.zero_mul];exact HC _ (by omega)
 | i + 1=>by
  have ih:=bZ (vs:=vs) hr hX hL i
  unfold UL
  have hm:(i + 1) * (2 * L + 1) = i * (2 * L + 1) + (2 * L + 1):=Nat.succ_mul _ _
  have ha:SB (atR row (vs.getD i 0)).val L:=by
   unfold atR
   split
   ·exact (hr.at _).val hL
   ·rw [rawQ_val];exact HC _ hL
  refine (ih.add1 (ha.mul ((hX.at i).val hL))).mono ?_
  omega
theorem WW {row:VV} {n L:Nat} (hr:vC row n L) (hL:1 <= L) (z:Int):vD (atR row z) L:=by
 unfold atR
 split
 ·exact hr.at _
 ·exact QB (HC _ hL)
abbrev c5_k1:CC:=(.seq (.reg [(mV 51 0),(oD 52 (.build [(.slice QA 0 0),(.slice QA 0 0),(.slice QA 0 0),(.slice QA 0 0)] [(3,(1,(tP 51)))])),(mV 53 1),(lT 54 5 5),(oD 55 (.callf (.func 23) [(tP 52),(tP 53),(tP 54)])),(lT 56 3 7),(oD 57 (.callf (.func 24) [(tP 56)])),(oD 58 (.callf (.func 22) [(tP 55),(tP 57)])),(mV 59 58),(oG 60 59 SA (.callf (.func 10) [])),(pF 61 59 60),(mV 6 61)]) .ret)
abbrev c5_b1:CC:=(.seq (.reg [(bB 36 .lss 35 34)]) (.seq (.cond (tP 36) .skip (.exit 0)) (.seq (.block 1 (.seq (.reg [(mV 37 35),(mV 9 37)]) (.reg [(lT 38 3 7),(mV 39 8),(mV 40 9),(xA 41 3 39 40),(lT 42 3 41),(fA 43 1 5),(lF 44 1 43),(mV 45 9),(xA 46 3 44 45),(lT 47 3 46),(oD 48 (.callf (.func 21) [(tP 42),(tP 47)])),(oD 49 (.callf (.func 20) [(tP 38),(tP 48)])),(sT 3 7 49)]))) (.reg [(bC 50 .add 35 1),(mV 35 50)]))))
abbrev c5:CC:=(.seq (.reg [(oD 5 (.box 56 (tP 2))),(mB 6 TA)]) (.seq (.seq (.reg [(mV 10 0),(nL 11 10),(bC 12 .gtr 11 10),(mV 13 12),(gM 14 13 TA 1),(oG 15 13 TA (.callf (.func 18) [(tP 14)])),(oG 16 13 TA (.un .not (tP 15))),(pT 17 13 16),(mV 18 17),(oG 19 18 TA (.faddr 1 (tP 5))),(oG 20 18 TA (.load 1 TA (tP 19))),(oG 21 18 TA (.callf (.func 18) [(tP 20)])),(oG 22 18 TA (.un .not (tP 21))),(pT 23 18 22)]) (.cond (tP 23) (.seq (.reg [(oD 24 (.callf (.func 10) [])),(mV 6 24)]) .ret) .skip)) (.seq (.reg [(oD 25 (.callf (.func 19) [(.const (.int .i64 (0)))])),(oD 7 (.new 48 [(.bool TA),(.slice QA 0 0),(.slice QA 0 0)])),(sT 3 7 25)]) (.seq (.reg [(mV 26 1),(mV 27 0),(oD 28 (.callf (.func 13) [(tP 26),(tP 27)])),(mV 8 28)]) (.seq (.seq (.reg [(mV 29 8),(nL 30 29),(fA 31 1 5),(lF 32 1 31),(nL 33 32),(oD 34 (.mm TA (tP 30) (tP 33))),(mI 35 0)]) (.block 0 (.loop c5_b1))) c5_k1)))))
theorem cc5:ZA Tryz.prog [] (Tryz.f5.body.getD .skip) = PA c5:=by kernel_rfl
theorem G0:Tryz.f5.body = PA (Tryz.f5.body.getD .skip):=rfl
theorem NT (vs:Option (List Int)) (row:VV) (kd:Int) (X:VV) (c:RR):YA Tryz.prog 5 [QL vs,aV row,aOf kd X c] (.ret (aB SA)):=by
 have haw:=jT
 have hf1:=bO row
 have hf2:=bO X
 by_cases h10:(UA vs).length <= 10
 case neg =>
  refine WA (rs:=[(RV.tmp 6)]) Tryz.func5 (fun a w=>Tryz.call5 a w) G0 cc5 (by kernel_rfl) ?_
  rw [Tryz.ntmps5]
  simp only [pC,nA,nS]
  repeat (first | (with_reducible first | refine W8 ?_ | refine VA rfl ?_) | ((with_reducible refine X8 fun K hK=>?_);simp (disch:=first | omega | simp only [sB];omega) only [qB,reduceIte,reduceCtorEq,iT,nA,nS,nM,iA,iS,iM,iN,fU];subst hK) | refine KB (haw) rfl rfl rfl ?_)
  exact ⟨_,rfl,rfl⟩
 cases c1:YJ row with
 | false =>
  rw [c1] at hf1
  refine WA (rs:=[(RV.tmp 6)]) Tryz.func5 (fun a w=>Tryz.call5 a w) G0 cc5 (by kernel_rfl) ?_
  rw [Tryz.ntmps5]
  simp only [pC,nA,nS]
  repeat (first | (with_reducible first | refine W8 ?_ | refine VA rfl ?_) | ((with_reducible refine X8 fun K hK=>?_);simp (disch:=first | omega | simp only [sB];omega) only [qB,reduceIte,reduceCtorEq,iT,nA,nS,nM,iA,iS,iM,iN,fU];subst hK) | refine UJ (hf1) ?_ | refine KB (haw) rfl rfl rfl ?_)
  exact ⟨_,rfl,rfl⟩
 | true =>
 rw [c1] at hf1
 cases c2:YJ X with
 | false =>
  rw [c2] at hf2
  refine WA (rs:=[(RV.tmp 6)]) Tryz.func5 (fun a w=>Tryz.call5 a w) G0 cc5 (by kernel_rfl) ?_
  rw [Tryz.ntmps5]
  simp only [pC,nA,nS]
  repeat (first | (with_reducible first | refine W8 ?_ | refine VA rfl ?_) | ((with_reducible refine X8 fun K hK=>?_);simp (disch:=first | omega | simp only [sB];omega) only [qB,reduceIte,reduceCtorEq,iT,nA,nS,nM,iA,iS,iM,iN,fU];subst hK) | refine UJ (hf1) ?_ | refine UJ (hf2) ?_ | refine KB (haw) rfl rfl rfl ?_)
  exact ⟨_,rfl,rfl⟩
 | true =>
 rw [c2] at hf2
 have hr:=TI c1
 have hX:=TI c2
 have hX1:=hX.1
 have hr1:=hr.1
 have hi0:=KE 0 (by omega) (by omega)
 rw [show ((0:Int):Rat) = 0 from rfl] at hi0
 have hat:=o8 row vs (by omega) (by omega)
 have hol:(UA (aC (mT row (UA vs)))).length = (UA vs).length:=by rw [WB];unfold mT;rw [eA]
 have hoe:∀ i (h:i < (UA (aC (mT row (UA vs)))).length),(UA (aC (mT row (UA vs))))[i] = atR row ((UA vs).getD i 0):=fun i h=>by
  have h2:i < (UA vs).length:=by omega
  rw [List.getElem_of_eq (WB _)]
  unfold mT
  rw [List.getElem_map,bA,aA h2];rfl
 obtain ⟨M,hM⟩:∃ M:Nat,M = min (UA vs).length (UA X).length:=⟨_,rfl⟩
 have hMi:(if ((UA X).length:Int) < (UA vs).length then ((UA X).length:Int) else (UA vs).length) = (M:Int):=by split <;> omega
 refine WA (rs:=[(RV.tmp 6)]) Tryz.func5 (fun a w=>Tryz.call5 a w) G0 cc5 (by kernel_rfl) ?_
 rw [Tryz.ntmps5]
 simp only [pC,nA,nS]
 repeat (first | (with_reducible first | refine W8 ?_ | refine VA rfl ?_) | ((with_reducible refine X8 fun K hK=>?_);simp (disch:=first | omega | simp only [sB];omega) only [qB,reduceIte,reduceCtorEq,iT,nA,nS,nM,iA,iS,iM,iN,fU,hol,hMi];subst hK) | refine UJ (hf1) ?_ | refine UJ (hf2) ?_ | refine KB (hi0) rfl rfl rfl ?_ | refine KB (hat) rfl rfl rfl ?_)
 refine xB (fun (zz:Nat)=>⟨(QL vs :: aV row :: .junk :: .junk :: .junk :: .one (.ptr 0 0 0 0) :: .junk :: .one (.ptr 1 0 0 0) :: aV (aC (mT row (UA vs))) :: L8 (J8 (.junk :: aI M :: aI zz :: L8 (J8 (.junk :: .junk :: []))))),[⟨0,56,5,[[.c (.val (.int .i64 kd)),.c (vr X),.c (.val (.bool c.minus)),.c (nr c.size),.c (nr c.den)]],SA,SA⟩,⟨0,48,3,[(fR (eB (UL (UA vs) row X zz))).map .c],SA,SA⟩]⟩) (fun (zz:Nat)=>zz <= M) (fun (zz:Nat)=>M - zz) (0) ?hI1 (TB.head (FA 2) (SA :: SA :: TA :: TA :: TA :: SA :: TA :: SA :: SA :: F16 (F8 (TA :: SA :: SA :: []))) ?hT1 ?hH1) ?hB1
 case hT1 | hH1=>first | (simp (disch:=omega) only [pD,IB,lB,XA,clean1,uB,reduceIte,iS,iA,iN,fR];done) | rfl
 ·exact FA _
 rintro i hi
 have hwf:=bZ (vs:=UA vs) hr hX (by decide) i
 have hshv:wL (UA vs) row X (UA X).length = UL (UA vs) row X M:=by rw [sh_wt,Nat.min_comm,<- hM]
 by_cases him:i = M
 ·rw [him] at hwf ⊢
  have hsh:=pZ ⟨QA,QA,QA⟩ vs row kd X c 8 3 hr hX (by decide) (by decide) (by decide) (by omega)
  rw [hshv] at hsh
  have hlo:=lof_C (eB (UL (UA vs) row X M)) ((QB hwf).mono (by omega))
  rw [rawQ_val] at hlo
  have his:=is_C (UL (UA vs) row X M) (UL (UA vs) row X M) (hwf.mono (by omega))
  rw [decide_eq_true rfl] at his
  generalize UL (UA vs) row X M = z at *
  repeat (first | (with_reducible first | refine W8 ?_ | refine VA rfl ?_) | ((with_reducible refine X8 fun K hK=>?_);simp (disch:=first | omega | simp only [sB];omega) only [qB,reduceIte,reduceCtorEq,iT,nA,nS,nM,iA,iS,iM,iN,fU,fR];subst hK) | refine KB (hsh) rfl rfl rfl ?_ | refine KB (hlo) rfl rfl rfl ?_ | refine KB (his) rfl rfl rfl ?_ | refine KB (haw) rfl rfl rfl ?_)
  exact ⟨_,rfl,rfl⟩
 ·have hlt:i < M:=by omega
  have hiX:i < (UA X).length:=by omega
  have hiv:i < (UA vs).length:=by omega
  have hss:UL (UA vs) row X (i + 1) = UL (UA vs) row X i + (atR row ((UA vs).getD i 0)).val * (UA X)[i].val:=by
   show _ + _ * jE X i = _
   unfold jE
   rw [fE hiX]
  have hXi:=hX.2 _ (gA hiX)
  have ha:=WW hr (by decide) ((UA vs).getD i 0)
  have hmul:=kN (atR row ((UA vs).getD i 0)) (UA X)[i] (ha.mono (by omega)) (hXi.mono (by omega))
  have hadd:=LT (eB (UL (UA vs) row X i)) (eB ((atR row ((UA vs).getD i 0)).val * (UA X)[i].val)) ((QB hwf).mono (by omega)) ((QB ((ha.val (by decide)).mul (hXi.val (by decide)))).mono (by omega))
  rw [rawQ_val,rawQ_val,<- hss] at hadd
  have hoi:i < (UA (aC (mT row (UA vs)))).length:=by omega
  have hoe:=hoe i
  generalize atR row ((UA vs).getD i 0) = y at *
  repeat (first | (with_reducible first | refine W8 ?_ | refine VA rfl ?_) | ((with_reducible refine X8 fun K hK=>?_);simp (disch:=first | omega | simp only [sB];omega) only [qB,reduceIte,reduceCtorEq,iT,nA,nS,nM,iA,iS,iM,iN,fU,fR,hoe];subst hK) | refine KB (hmul) rfl rfl rfl ?_ | refine KB (hadd) rfl rfl rfl ?_)
  refine ⟨(i + 1),?hI2,?hM2,TB.head (FA 2) (SA :: SA :: TA :: TA :: TA :: SA :: TA :: SA :: SA :: F16 (F8 (TA :: SA :: SA :: []))) ?hT2 ?hH2⟩
  case hT2 | hH2=>first | (simp (disch:=omega) only [pD,IB,lB,XA,clean1,uB,reduceIte,iS,iA,iN,fR];done) | rfl
  ·omega
  ·omega
theorem J5:sD Tryz.prog 9 (fun l=>∃ s:ZJ,True /\ l = fW s):=UC (IT Tryz.underlying9) (by
 rintro l ⟨s,_,rfl⟩
 exact ⟨s,trivial,rfl⟩)
theorem rd_strs:sD Tryz.prog 22 (fun l=>∃ s:Option (List ZJ),l = [jB 1 fW s]):=UC (MF (k:=1) Tryz.underlying22 (by kernel_rfl) (by decide) (fun a=>rfl) J5) (by
 rintro l ⟨s,_,rfl⟩
 exact ⟨s,rfl⟩)
theorem rd_row:sD Tryz.prog 50 (fun l=>∃ r:RowM,True /\ l = DD r):=UC (wR (c0:=1) (c1:=1) (c2:=1) (c3:=3) Tryz.underlying50 rfl (by kernel_rfl) rfl (by kernel_rfl) rfl (by kernel_rfl) rfl (by kernel_rfl) (by kernel_rfl) J5 JT HX GX) (by
 rintro l ⟨l0,l1,l2,l3,⟨s,_,rfl⟩,⟨c,rfl⟩,⟨n,_,rfl⟩,⟨b,_,rfl⟩,rfl⟩
 exact ⟨⟨s,c,n,b⟩,trivial,rfl⟩)
theorem rd_rows:sD Tryz.prog 24 (fun l=>∃ s:Option (List RowM),l = [jB 6 DD s]):=UC (MF (k:=6) Tryz.underlying24 (by kernel_rfl) (by decide) (fun a=>rfl) rd_row) (by
 rintro l ⟨s,_,rfl⟩
 exact ⟨s,rfl⟩)
def cMd (m:MD):List CV:=[jB 1 fW m.vars,vr m.cost,jB 6 DD m.rows]
theorem N5:sD Tryz.prog 26 (fun l=>∃ m:MD,l = cMd m):=UC (gL (c0:=1) (c1:=1) (c2:=1) Tryz.underlying26 rfl (by kernel_rfl) rfl (by kernel_rfl) rfl (by kernel_rfl) (by kernel_rfl) rd_strs JT rd_rows) (by
 rintro l ⟨l0,l1,l2,⟨v,rfl⟩,⟨c,rfl⟩,⟨r,rfl⟩,rfl⟩
 exact ⟨⟨v,c,r⟩,rfl⟩)
theorem xZ:sD Tryz.prog 35 (fun l=>∃ s:Option (List Int),((UA s).length <= 9223372036854775807 /\ ∀ z ∈ UA s,-9223372036854775808 <= z /\ z <= 9223372036854775807) /\ l = [jB 1 fI s]):=UC (MF (k:=1) Tryz.underlying35 (by kernel_rfl) (by decide) (fun a=>rfl) (UC HX (by
 rintro l ⟨n,hn,rfl⟩
 exact ⟨n,hn,rfl⟩))) (by
 rintro l ⟨s,hs,rfl⟩
 exact ⟨s,⟨by simpa [maxLen] using hs.2,hs.1⟩,rfl⟩)
end Go.Proofs.YtncgbjhojbnecaaGreat
namespace Go.Proofs.YtncgbjhojbnecaaGreat
open Go Go.Am Go.Proofs Go.RowKit Go.Off Go.ChangeShapes Go.WideShapes
open Nat renaming reduceAdd -> nA,reduceSub -> nS,reduceMul -> nM,reduceBEq -> nB
open Int renaming reduceToNat -> iT,reduceAdd -> iA,reduceSub -> iS,reduceMul -> iM,reduceNeg -> iN
theorem xR {P:Program} {t:TypeId} {f0:Field} {R0:List CV -> Prop} {c0:Nat} (ht:P.underlying t = PA (.struct #[f0])) (h0:f0.offset = 0) (hc0:P.cellsOf f0.type = c0) (hc:P.cellsOf t = c0) (r0:sD P f0.type R0):sD P t R0:=fun H enc w fuel cs x h=>by
 obtain ⟨y0,n,_,hl,k0⟩:=trod_struct1 ht h
 obtain ⟨l0,a0,p0⟩:=r0 H enc w n _ _ k0
 refine ⟨l0,a0,?_⟩
 rw [h0,hc0,List.drop_zero,List.take_of_length_le (by rw [hl,hc];exact EA _)] at p0
 exact p0
theorem K5:sD Tryz.prog 56 (fun l=>∃ (kd:Int) (X:VV) (c:RR),l = [.val (.int .i64 kd),vr X,.val (.bool c.minus),nr c.size,nr c.den]):=UC (gL (c0:=1) (c1:=1) (c2:=3) Tryz.underlying56 rfl (by kernel_rfl) rfl (by kernel_rfl) rfl (by kernel_rfl) (by kernel_rfl) HX JT GX) (by
 rintro l ⟨l0,l1,l2,⟨k,_,rfl⟩,⟨c,rfl⟩,⟨r,_,rfl⟩,rfl⟩
 exact ⟨k,c,r,rfl⟩)
def G8 (n:NB):Prop:=(UA n).length <= 9223372036854775807 /\ ∀ s ∈ UA n,∀ z ∈ UA s,-9223372036854775808 <= z /\ z <= 9223372036854775807
theorem T1:sD Tryz.prog 27 (fun l=>∃ n:NB,G8 n /\ l = [jB 1 uW n]):=UC (MF (k:=1) Tryz.underlying27 (by kernel_rfl) (by decide) (fun a=>rfl) (UC xZ (by
 rintro l ⟨s,hs,rfl⟩
 exact ⟨s,hs,rfl⟩))) (by
 rintro l ⟨s,hs,rfl⟩
 exact ⟨s,⟨by simpa [maxLen] using hs.2,fun q hq=>(hs.1 q hq).2⟩,rfl⟩)
theorem L5:sD Tryz.prog 29 (fun l=>∃ n:NB,G8 n /\ l = [jB 1 uW n]):=xR (c0:=1) Tryz.underlying29 rfl (by kernel_rfl) (by kernel_rfl) T1
end Go.Proofs.YtncgbjhojbnecaaGreat
namespace Go.Proofs.YtncgbjhojbnecaaGreat
open Go
theorem eD {a b:Bool} (h:a = SA) (g:b = SA):(a && b) = SA:=by rw [h,g];rfl
theorem ownK:ownKnob Tryz.prog.godebug = QA:=by kernel_rfl
theorem kp1:laidOutB Tryz.prog = SA:=by kernel_rfl
theorem eW:laidOutB Tryz.prog = SA:=kp1
theorem kp2:mapsRowed Tryz.prog = SA:=by kernel_rfl
theorem kp6:(Tryz.prog.stops == []) = SA:=by kernel_rfl
theorem kp8:(Tryz.prog.stopKnobs == []) = SA:=by kernel_rfl
theorem kp24:Tryz.prog.stopsHeard = SA:=by kernel_rfl
theorem kp25:Tryz.prog.mayEnter = SA:=by kernel_rfl
theorem kp22:Tryz.prog.plainKeys = SA:=by kernel_rfl
theorem kp26:Tryz.prog.liftsFinal = TA:=by kernel_rfl
theorem kp27:Tryz.prog.make = PA .cut:=by kernel_rfl
end Go.Proofs.YtncgbjhojbnecaaGreat
