/- Walks of vec: Same by slices.EqualFunc. -/
import Derived.WalkKit
import Derived.LoopTactic
import Derived.Handy
import Derived.OwnWalk
import Derived.Laws.CopyOwn
import Derived.Deep.RegionLaw
import Derived.Maps.RangeWalk
import Derived.Maps.Own
import Derived.Maps.OwnOps
import Derived.Maps.OwnSet
import Derived.Maps.Views
import Derived.Test.YtncgbjhojbnecaaGreatU5
import Derived.Test.YtncgbjhojbnecaaGreatU6
import Derived.Test.YtncgbjhojbnecaaGreatU9
set_option linter.unusedSimpArgs false
set_option linter.unusedVariables false
set_option linter.unnecessarySimpa false
set_option maxRecDepth 100000
set_option maxHeartbeats 4000000
open Bool renaming false -> TA, true -> SA, false_eq_true -> IA, and_eq_true -> JA, or_true -> KA, not_false -> LA
open List renaming mem_range -> zA, getElem_mem -> gA, getD_eq_getElem?_getD -> bA, getElem?_eq_getElem -> aA, length_map -> eA, mem_map -> yA, replicate -> jA, length_replicate -> tA, length_append -> sA, set_cons_zero -> mA, map_map -> uA, map_congr_left -> wA, set_cons_succ -> lA, length_nil -> pA, length_cons -> oA, nil_append -> qA, cons_append -> rA, isEmpty_cons -> kA
open Option renaming none -> QA, some -> PA, getD_some -> DA
open Go.Am.Way renaming imp -> W8
open Go.Am.WayR renaming imp -> X8
open Nat renaming le_refl -> EA, zero_le -> fN, le_trans -> GA
open Option.some renaming injEq -> BA
open Prod.mk renaming injEq -> MA
namespace Go.Proofs.YtncgbjhojbnecaaGreat
open Go Go.Am Go.Proofs Go.RowKit Go.Off
open Nat renaming reduceAdd -> nA,reduceSub -> nS,reduceMul -> nM,reduceBEq -> nB
open Int renaming reduceToNat -> iT,reduceAdd -> iA,reduceSub -> iS,reduceMul -> iM,reduceNeg -> iN
abbrev aSame1:AV:=.one (.fn 47 [])
def qJ (a b:VV) (k:Nat):Bool:=(List.range k).all fun i=>decide (jE a i = jE b i)
def lM (a b:VV):Bool:=((UA a).length == (UA b).length) && qJ a b (UA a).length
theorem sameTo_succ (a b:VV) (k:Nat):qJ a b (k + 1) = (qJ a b k && decide (jE a k = jE b k)):=by
 unfold qJ;rw [List.range_succ,List.all_append];simp
theorem ET {a b:VV} {k m:Nat} (hk:k < m) (h:jE a k ≠ jE b k):qJ a b m = TA:=by
 unfold qJ
 rw [List.all_eq_false]
 exact ⟨k,zA.2 hk,by simpa using h⟩
abbrev c46_k1:CC:=(.seq (.reg [(mB 6 SA)]) .ret)
abbrev c46_b1:CC:=(.seq (.reg [(bB 18 .lss 17 16)]) (.seq (.cond (tP 18) .skip (.exit 0)) (.seq (.block 1 (.seq (.reg [(mV 19 17),(xA 20 3 15 17),(lT 21 3 20),(oD 8 (.new 48 [(.bool TA),(.slice QA 0 0),(.slice QA 0 0)])),(mV 7 19),(sT 3 8 21)]) (.seq (.reg [(mV 22 1),(mV 23 7),(xA 24 3 22 23),(lT 25 3 24),(oD 9 (.new 48 [(.bool TA),(.slice QA 0 0),(.slice QA 0 0)])),(sT 3 9 25)]) (.seq (.reg [(mV 26 2),(lT 27 3 8),(lT 28 3 9),(oD 29 (.callf (tP 26) [(tP 27),(tP 28)])),(uN 30 29)]) (.cond (tP 30) (.seq (.reg [(mB 6 TA)]) .ret) .skip))))) (.reg [(bC 31 .add 17 1),(mV 17 31)]))))
abbrev c46:CC:=(.seq (.reg [(mB 6 TA)]) (.seq (.seq (.reg [(mV 10 0),(nL 11 10),(mV 12 1),(nL 13 12),(bB 14 .neq 11 13)]) (.cond (tP 14) (.seq (.reg [(mB 6 TA)]) .ret) .skip)) (.seq (.seq (.reg [(mV 15 0),(nL 16 15),(mI 17 0)]) (.block 0 (.loop c46_b1))) c46_k1)))
theorem cc46:ZA Tryz.prog [] (Tryz.f46.body.getD .skip) = PA c46:=by kernel_rfl
theorem body46:Tryz.f46.body = PA (Tryz.f46.body.getD .skip):=rfl
theorem equalf_C (a b:VV) (n L:Nat) (ha:vC a n L) (hb:vC b n L) (hn:n <= 1000000) (hL2:L <= 1000000) :
  YA Tryz.prog 46 [aV a,aV b,aSame1] (.ret (aB (lM a b))):=by
 have ha1:=ha.1
 have hb1:=hb.1
 refine WA (rs:=[(RV.tmp 6)]) Tryz.func46 (fun a w=>Tryz.call46 a w) body46 cc46 (by kernel_rfl) ?_
 rw [Tryz.ntmps46]
 simp only [pC,nA,nS]
 by_cases hl:(UA a).length = (UA b).length
 ·have hq:lM a b = qJ a b (UA a).length:=by unfold lM;rw [hl];simp
  rw [hq]
  repeat (first | (with_reducible first | refine W8 ?_ | refine VA rfl ?_) | ((with_reducible refine X8 fun K hK=>?_);simp (disch:=first | omega | simp only [sB];omega) only [qB,reduceIte,reduceCtorEq,iT,nA,nS,nM,iA,iS,iM,iN,fU];subst hK))
  refine xB (fun (zz:Nat)=>⟨(aV a :: aV b :: aSame1 :: .junk :: .junk :: .junk :: aB TA :: J8 (aV a :: aI (UA a).length :: aI zz :: J8 (J4 (.junk :: .junk :: [])))),[]⟩) (fun (zz:Nat)=>zz <= (UA a).length /\ qJ a b zz = SA) (fun (zz:Nat)=>(UA a).length - zz) (0) ?hI1 (TB.headA (EA _) [SA,SA,SA,TA,TA,TA,SA,TA,TA,TA,TA,TA,TA,TA,TA,SA,SA,SA]) ?hB1
  ·exact ⟨fN _,rfl⟩
  rintro i ⟨hi,hs⟩
  by_cases him:i = (UA a).length
  ·repeat (first | (with_reducible first | refine W8 ?_ | refine VA rfl ?_) | ((with_reducible refine X8 fun K hK=>?_);simp (disch:=first | omega | simp only [sB];omega) only [qB,reduceIte,reduceCtorEq,iT,nA,nS,nM,iA,iS,iM,iN,fU];subst hK))
   rw [<- him,hs]
   exact ⟨_,rfl,rfl⟩
  ·have hlt:i < (UA a).length:=by omega
   have hltb:i < (UA b).length:=by omega
   have hsm:=same1_C (UA a)[i] (UA b)[i] ((ha.2 _ (gA hlt)).mono (by omega)) ((hb.2 _ (gA hltb)).mono (by omega))
   rw [<- fE hlt,<- fE hltb] at hsm
   change YA _ _ _ (.ret (aB (decide (jE a i = jE b i)))) at hsm
   rw [fE hlt,fE hltb] at hsm
   by_cases he:jE a i = jE b i
   ·rw [decide_eq_true he] at hsm
    repeat (first | (with_reducible first | refine W8 ?_ | refine VA rfl ?_) | ((with_reducible refine X8 fun K hK=>?_);simp (disch:=first | omega | simp only [sB];omega) only [qB,reduceIte,reduceCtorEq,iT,nA,nS,nM,iA,iS,iM,iN,fU,fR];subst hK) | refine zcV (hsm) rfl rfl rfl ?_)
    refine ⟨(i + 1),?hI2,?hM2,TB.headA (EA _) [SA,SA,SA,TA,TA,TA,SA,TA,TA,TA,TA,TA,TA,TA,TA,SA,SA,SA]⟩
    ·exact ⟨Nat.succ_le_of_lt hlt,by rw [sameTo_succ,hs,decide_eq_true he];rfl⟩
    ·show (UA a).length - (i + 1) < (UA a).length - i;omega
   ·rw [decide_eq_false he] at hsm
    repeat (first | (with_reducible first | refine W8 ?_ | refine VA rfl ?_) | ((with_reducible refine X8 fun K hK=>?_);simp (disch:=first | omega | simp only [sB];omega) only [qB,reduceIte,reduceCtorEq,iT,nA,nS,nM,iA,iS,iM,iN,fU,fR];subst hK) | refine zcV (hsm) rfl rfl rfl ?_)
    rw [ET hlt he]
    exact ⟨_,rfl,rfl⟩
 ·have hq:lM a b = TA:=by unfold lM;simp [hl]
  rw [hq]
  repeat (first | (with_reducible first | refine W8 ?_ | refine VA rfl ?_) | ((with_reducible refine X8 fun K hK=>?_);simp (disch:=first | omega | simp only [sB];omega) only [qB,reduceIte,reduceCtorEq,iT,nA,nS,nM,iA,iS,iM,iN,fU];subst hK))
  exact ⟨_,rfl,rfl⟩
abbrev MM:=Option (List VV)
def fM (v:VV):List CV:=[vr v]
abbrev aM (m:MM):AV:=.one (.c (jB 1 fM m))
def RJ (m:MM) (i:Nat):VV:=(UA m).getD i QA
theorem mF {m:MM} {i:Nat} (h:i < (UA m).length):RJ m i = (UA m)[i]:=by
 unfold RJ;rw [bA,aA h];rfl
def LG (m:MM) (n L:Nat):Prop:=(UA m).length <= n /\ ∀ v ∈ UA m,vC v n L
theorem FE (L:Nat) (hL:1 <= L):SB 1 L:=by
 refine ⟨?_,?_⟩
 ·rw [show ((1:Rat).num.natAbs) = 1 from rfl];exact (by rw [len1];exact hL)
 ·rw [show ((1:Rat).den) = 1 from rfl];exact (by rw [len1];exact hL)
theorem vC.monoL {a:VV} {n L K:Nat} (h:vC a n L) (hk:L <= K):vC a n K:=⟨h.1,fun r hr=>(h.2 r hr).mono hk⟩
theorem LG.at {m:MM} {n L:Nat} (h:LG m n L) (i:Nat):vC (RJ m i) n L:=by
 by_cases hi:i < (UA m).length
 ·rw [mF hi];exact h.2 _ (gA hi)
 ·have:RJ m i = QA:=by unfold RJ;rw [bA,List.getElem?_eq_none (by omega)];rfl
  rw [this]
  exact ⟨fN _,fun r hr=>absurd hr (by simp [UA])⟩
theorem qAt_rw (l:List Rat) (i:Nat):jE (aC (l.map eB)) i = l.getD i 0:=by
 unfold jE dF
 rw [WB]
 simp only [bA,List.getElem?_map]
 cases l[i]? with
 | none=>exact cP
 | some q=>exact rawQ_val q
theorem len_rw (l:List Rat):(UA (aC (l.map eB))).length = l.length:=by rw [WB,eA]
theorem UO {l:List Rat} {n L:Nat} (hn:l.length <= n) (h:∀ q ∈ l,SB q L):vC (aC (l.map eB)) n L:=by
 refine ⟨by rw [len_rw];exact hn,fun x hx=>?_⟩
 rw [WB] at hx
 obtain ⟨q,hq,rfl⟩:=yA.1 hx
 exact QB (h q hq)
theorem c7 (a b:VV):aL a b = OB (dP a b) (fun i=>jE a i * jE b i):=by
 unfold aL
 generalize dP a b = k
 induction k with
 | zero=>rfl
 | succ k ih=>rw [UQ,ih];rfl
theorem same_of {a b:VV} (h:(UA a).length = (UA b).length) (he:∀ k,k < (UA a).length -> jE a k = jE b k):lM a b = SA:=by
 unfold lM
 rw [h,beq_self_eq_true,Bool.true_and]
 unfold qJ
 rw [List.all_eq_true]
 intro k hk
 rw [zA] at hk
 rw [he k (by omega)]
 simp
def cols (m:MM):Nat:=(UA (RJ m 0)).length
def kF (m:MM) (k:Nat):Bool:=(List.range k).all fun i=>decide ((UA (RJ m i)).length = cols m)
theorem rectTo_succ (m:MM) (k:Nat):kF m (k + 1) = (kF m k && decide ((UA (RJ m k)).length = cols m)):=by
 unfold kF;rw [List.range_succ,List.all_append];simp
theorem MI {m:MM} {k i:Nat} (h:kF m k = SA) (hi:i < k):(UA (RJ m i)).length = cols m:=by
 have:=List.all_eq_true.1 h i (zA.2 hi)
 simpa using this
def MR (m:MM):Bool:=kF m (UA m).length && (decide ((UA m).length <= 200) && decide (cols m <= 200))
def UF (m:MM):AV:=if MR m then .tup [aI ((UA m).length:Nat),aI (cols m:Nat),aB SA] else .tup [aI 0,aI 0,aB TA]
abbrev c143_k1:CC:=(.seq (.seq (.reg [(mV 24 0),(nL 25 24),(bC 26 .gtr 25 200),(mV 27 26),(gM 28 27 TA 0),(oG 29 27 TA (.iaddr 1 QA (tP 28) (.const (.int .i64 (0))))),(oG 30 27 TA (.load 1 TA (tP 29))),(oG 31 27 TA (.len TA (tP 30))),(oG 32 27 TA (.bin .gtr (tP 31) (.const (.int .i64 (200))))),(pT 33 27 32)]) (.cond (tP 33) (.seq (.reg [(mI 2 0),(mI 3 0),(mB 4 TA)]) .ret) .skip)) (.seq (.reg [(mV 34 0),(nL 35 34),(mV 36 0),(oD 37 (.iaddr 1 QA (tP 36) (.const (.int .i64 (0))))),(lF 38 1 37),(nL 39 38),(mV 2 35),(mV 3 39),(mB 4 SA)]) .ret))
abbrev c143_b1:CC:=(.seq (.reg [(bB 13 .lss 12 11)]) (.seq (.cond (tP 13) .skip (.exit 0)) (.seq (.block 1 (.seq (.reg [(xA 14 1 10 12),(lF 15 1 14),(mV 6 15)]) (.seq (.reg [(mV 16 6),(nL 17 16),(mV 18 0),(oD 19 (.iaddr 1 QA (tP 18) (.const (.int .i64 (0))))),(lF 20 1 19),(nL 21 20),(bB 22 .neq 17 21)]) (.cond (tP 22) (.seq (.reg [(mI 2 0),(mI 3 0),(mB 4 TA)]) .ret) .skip)))) (.reg [(bC 23 .add 12 1),(mV 12 23)]))))
abbrev c143:CC:=(.seq (.reg [(mI 2 0),(mI 3 0),(mB 4 TA)]) (.seq (.seq (.reg [(mV 7 0),(nL 8 7),(bC 9 .eql 8 0)]) (.cond (tP 9) (.seq (.reg [(mI 2 0),(mI 3 0),(mB 4 SA)]) .ret) .skip)) (.seq (.seq (.reg [(mV 10 0),(nL 11 10),(mI 12 0)]) (.block 0 (.loop c143_b1))) c143_k1)))
theorem cc143:ZA Tryz.prog [] (Tryz.f143.body.getD .skip) = PA c143:=by kernel_rfl
theorem body143:Tryz.f143.body = PA (Tryz.f143.body.getD .skip):=rfl
theorem AT (m:MM) (hm:(UA m).length <= 1000000):YA Tryz.prog 143 [aM m] (.ret (UF m)):=by
 by_cases h0:(UA m).length = 0
 ·have hc:cols m = 0:=by unfold cols RJ;rw [List.length_eq_zero_iff.1 h0];rfl
  have hv:UF m = .tup [aI 0,aI 0,aB SA]:=by
   unfold UF MR kF
   rw [h0,hc]
   rfl
  rw [hv]
  refine WA (rs:=[(RV.tmp 2),(RV.tmp 3),(RV.tmp 4)]) Tryz.func143 (fun a w=>Tryz.call143 a w) body143 cc143 (by kernel_rfl) ?_
  rw [Tryz.ntmps143]
  simp only [pC,nA,nS]
  repeat (first | (with_reducible first | refine W8 ?_ | refine VA rfl ?_) | ((with_reducible refine X8 fun K hK=>?_);simp (disch:=first | omega | simp only [sB];omega) only [qB,reduceIte,reduceCtorEq,iT,nA,nS,nM,iA,iS,iM,iN,fU,h0];subst hK))
  exact ⟨_,rfl,rfl⟩
 ·have h00:0 < (UA m).length:=by omega
  have hc:cols m = (UA (UA m)[0]).length:=by unfold cols;rw [mF h00]
  refine WA (rs:=[(RV.tmp 2),(RV.tmp 3),(RV.tmp 4)]) Tryz.func143 (fun a w=>Tryz.call143 a w) body143 cc143 (by kernel_rfl) ?_
  rw [Tryz.ntmps143]
  simp only [pC,nA,nS]
  repeat (first | (with_reducible first | refine W8 ?_ | refine VA rfl ?_) | ((with_reducible refine X8 fun K hK=>?_);simp (disch:=first | omega | simp only [sB];omega) only [qB,reduceIte,reduceCtorEq,iT,nA,nS,nM,iA,iS,iM,iN,fU];subst hK))
  refine xB (fun (zz:Nat)=>⟨(aM m :: J8 (.junk :: aM m :: aI (UA m).length :: aI zz :: L8 (J8 (.junk :: .junk :: .junk :: [])))),[]⟩) (fun (zz:Nat)=>zz <= (UA m).length /\ kF m zz = SA) (fun (zz:Nat)=>(UA m).length - zz) (0) ?hI1 (TB.headA (EA _) [SA,TA,TA,TA,TA,TA,TA,TA,TA,TA,SA,SA,SA]) ?hB1
  ·exact ⟨by omega,rfl⟩
  rintro i ⟨hi,hr⟩
  by_cases him:i = (UA m).length
  ·rw [him] at hr
   by_cases h1:(UA m).length <= 200
   ·by_cases h2:(UA (UA m)[0]).length <= 200
    ·have hv:UF m = .tup [aI ((UA m).length:Nat),aI ((UA (UA m)[0]).length:Nat),aB SA]:=by
      unfold UF MR
      rw [hr,hc,decide_eq_true h1,decide_eq_true h2]
      rfl
     repeat (first | (with_reducible first | refine W8 ?_ | refine VA rfl ?_) | ((with_reducible refine X8 fun K hK=>?_);simp (disch:=first | omega | simp only [sB];omega) only [qB,reduceIte,reduceCtorEq,iT,nA,nS,nM,iA,iS,iM,iN,fU,fM];subst hK))
     refine ⟨_,rfl,?_⟩
     rw [hv]
     rfl
    ·have hv:UF m = .tup [aI 0,aI 0,aB TA]:=by
      unfold UF MR
      rw [hc,decide_eq_false h2,Bool.and_false,Bool.and_false]
      rfl
     repeat (first | (with_reducible first | refine W8 ?_ | refine VA rfl ?_) | ((with_reducible refine X8 fun K hK=>?_);simp (disch:=first | omega | simp only [sB];omega) only [qB,reduceIte,reduceCtorEq,iT,nA,nS,nM,iA,iS,iM,iN,fU,fM];subst hK))
     refine ⟨_,rfl,?_⟩
     rw [hv]
     rfl
   ·have hv:UF m = .tup [aI 0,aI 0,aB TA]:=by
     unfold UF MR
     rw [decide_eq_false h1,Bool.false_and,Bool.and_false]
     rfl
    repeat (first | (with_reducible first | refine W8 ?_ | refine VA rfl ?_) | ((with_reducible refine X8 fun K hK=>?_);simp (disch:=first | omega | simp only [sB];omega) only [qB,reduceIte,reduceCtorEq,iT,nA,nS,nM,iA,iS,iM,iN,fU,fM];subst hK))
    refine ⟨_,rfl,?_⟩
    rw [hv]
    rfl
  ·have hlt:i < (UA m).length:=by omega
   by_cases he:(UA (UA m)[i]).length = (UA (UA m)[0]).length
   ·repeat (first | (with_reducible first | refine W8 ?_ | refine VA rfl ?_) | ((with_reducible refine X8 fun K hK=>?_);simp (disch:=first | omega | simp only [sB];omega) only [qB,reduceIte,reduceCtorEq,iT,nA,nS,nM,iA,iS,iM,iN,fU,fM,he];subst hK))
    refine ⟨(i + 1),?hI2,?hM2,TB.headA (EA _) [SA,TA,TA,TA,TA,TA,TA,TA,TA,TA,SA,SA,SA]⟩
    ·refine ⟨by omega,?_⟩
     rw [rectTo_succ,hr,mF hlt,hc,he]
     simp
    ·omega
   ·have hv:UF m = .tup [aI 0,aI 0,aB TA]:=by
     have:kF m (UA m).length = TA:=by
      cases hq:kF m (UA m).length with
      | false=>rfl
      | true=>exact (he (by rw [<- mF hlt,<- hc];exact MI hq hlt)).elim
     unfold UF MR
     rw [this,Bool.false_and]
     rfl
    repeat (first | (with_reducible first | refine W8 ?_ | refine VA rfl ?_) | ((with_reducible refine X8 fun K hK=>?_);simp (disch:=first | omega | simp only [sB];omega) only [qB,reduceIte,reduceCtorEq,iT,nA,nS,nM,iA,iS,iM,iN,fU,fM];subst hK))
    refine ⟨_,rfl,?_⟩
    rw [hv]
    rfl
def qM (m:MM):List (List Rat):=(UA m).map fun v=>(UA v).map fun r=>r.val
def ED (q:List Rat):VV:=PA (q.map eB)
def KT (q:List (List Rat)):MM:=PA (q.map ED)
theorem copyR (a:List RR) (n:Nat) (b:List Rat) (hb:a = b.map eB) (hn:b.length = n) :
  List.take (jA n zR).length (wB (fun q=>fR (eB q)) b) ++ List.drop b.length (wB fR (jA n zR)) = wB fR a:=by
 rw [tA,List.take_of_length_le (by rw [HG];omega),List.drop_of_length_le (by rw [HG,tA];omega),List.append_nil,hb]
 simp [wB]
theorem repM (n:Nat):jA n [Cell.c (.val (.slice QA 0 0))] = wB fM (jA n QA):=by rw [TE];rfl
theorem repR (n:Nat):jA n [Cell.c (.val (.bool TA)),.c (.val (.slice QA 0 0)),.c (.val (.slice QA 0 0))] = wB fR (jA n zR):=by rw [TE];rfl
abbrev c146_k1:CC:=(.seq (.reg [(mV 31 3),(mV 2 31)]) .ret)
abbrev c146_b1:CC:=(.seq (.reg [(bB 12 .lss 11 10)]) (.seq (.cond (tP 12) .skip (.exit 0)) (.seq (.block 1 (.seq (.reg [(mV 13 11),(xA 14 1 9 11),(lF 15 1 14),(mV 4 13),(mV 5 15)]) (.seq (.reg [(mV 16 3),(mV 17 4),(mV 18 5),(nL 19 18),(oD 20 (.make 48 3 56 [(.bool TA),(.slice QA 0 0),(.slice QA 0 0)] (tP 19) (tP 19))),(xA 21 1 16 17),(sT 1 21 20)]) (.reg [(mV 22 3),(mV 23 4),(xA 24 1 22 23),(lF 25 1 24),(mV 26 5),(oD 27 (.callf (.func 19) [(.const (.int .i64 (1)))])),(oD 28 (.callf (.func 44) [(tP 26),(tP 27)])),(oD 29 (.copy 3 (tP 25) (tP 28)))])))) (.reg [(bC 30 .add 11 1),(mV 11 30)]))))
abbrev c146:CC:=(.seq (.reg [(oD 2 (.mv nC))]) (.seq (.reg [(mV 6 0),(nL 7 6),(oD 8 (.make 23 1 24 [(.slice QA 0 0)] (tP 7) (tP 7))),(mV 3 8)]) (.seq (.seq (.reg [(mV 9 0),(nL 10 9),(mI 11 0)]) (.block 0 (.loop c146_b1))) c146_k1)))
theorem cc146:ZA Tryz.prog [] (Tryz.f146.body.getD .skip) = PA c146:=by kernel_rfl
theorem body146:Tryz.f146.body = PA (Tryz.f146.body.getD .skip):=rfl
theorem own_C (m:MM) (n L:Nat) (hm:LG m n L) (hn:n <= 1000000) (hL:1 <= L) (hL2:L <= 4000000) :
  YA Tryz.prog 146 [aM m] (.fresh 23 1 (((qM m).map ED).map fM) SA):=by
 have hm1:=hm.1
 have hint:=KE 1 (by omega) (by omega)
 rw [show ((1:Int):Rat) = 1 from rfl] at hint
 refine WA (rs:=[(RV.tmp 2)]) Tryz.func146 (fun a w=>Tryz.call146 a w) body146 cc146 (by kernel_rfl) ?_
 rw [Tryz.ntmps146]
 simp only [pC,nA,nS]
 repeat (first | (with_reducible first | refine W8 ?_ | refine VA rfl ?_) | ((with_reducible refine X8 fun K hK=>?_);simp (disch:=first | omega | simp only [sB];omega) only [qB,reduceIte,reduceCtorEq,iT,nA,nS,nM,iA,iS,iM,iN,fU,repM];subst hK))
 refine xB (fun (zz:Nat × (List VV))=>⟨(.junk :: .junk :: .junk :: .one (.own 0 0) :: J4 (.junk :: aM m :: aI (UA m).length :: aI zz.1 :: L8 (J4 ([])))),[⟨0,23,1,wB fM zz.2,SA,SA⟩]⟩) (fun (zz:Nat × (List VV))=>zz.1 <= (UA m).length /\ zz.2 = ((qM m).take zz.1).map ED ++ jA ((UA m).length - zz.1) QA) (fun (zz:Nat × (List VV))=>(UA m).length - zz.1) (0,jA (UA m).length QA) ?hI1 (TB.headA (fN 1) [TA,TA,TA,SA,TA,TA,TA,TA,TA,SA,SA,SA]) ?hB1
 ·dsimp only;exact ⟨by omega,rfl⟩
 rintro ⟨i,out⟩ ⟨hi,ho⟩
 dsimp only at hi ho
 have hql:(qM m).length = (UA m).length:=by unfold qM;rw [eA]
 have hol:out.length = (UA m).length:=by rw [ho,sA,eA,List.length_take,tA];omega
 by_cases him:i = (UA m).length
 ·repeat (first | (with_reducible first | refine W8 ?_ | refine VA rfl ?_) | ((with_reducible refine X8 fun K hK=>?_);simp (disch:=first | omega | simp only [sB];omega) only [qB,reduceIte,reduceCtorEq,iT,nA,nS,nM,iA,iS,iM,iN,fU];subst hK))
  refine ⟨_,rfl,?_⟩
  rw [him,Nat.sub_self,List.replicate_zero,List.append_nil,<- hql,List.take_length] at ho
  rw [<- ho]
  exact JD.fresh_enc rfl
 ·have hlt:i < (UA m).length:=by omega
  have hfi:=hm.2 _ (gA hlt)
  have hfl:=hfi.1
  have hsc:=(XL (UA m)[i] (eB 1) n L hfi (QB (FE L hL)) hn hL hL2).fresh_rowO
  have hsg:∀ x:List Cell,((wB fM out).set i x)[i]? = PA x:=fun x=>List.getElem?_set_self (by rw [HG];omega)
  have hsl:∀ x:List Cell,((wB fM out).set i x).length = (UA m).length:=fun x=>by rw [List.length_set,HG];exact hol
  repeat (first | (with_reducible first | refine W8 ?_ | refine VA rfl ?_) | ((with_reducible refine X8 fun K hK=>?_);simp (disch:=first | omega | simp only [sB];omega) only [qB,reduceIte,reduceCtorEq,iT,nA,nS,nM,iA,iS,iM,iN,fU,fM,repR,hsg,hsl];subst hK) | refine KB (hint) rfl rfl rfl ?_ | refine KB (hsc) rfl rfl rfl ?_)
  have hsq:JE (UA m)[i] (eB 1).val = (UA (UA m)[i]).map fun r=>r.val:=by
   unfold JE;rw [rawQ_val];simp only [Rat.mul_one]
  rw [WB,hsq,copyR (((UA (UA m)[i]).map fun r=>r.val).map eB) (UA (UA m)[i]).length _ rfl (by rw [eA])]
  refine ⟨(i + 1,out.set i (ED ((UA (UA m)[i]).map fun r=>r.val))),⟨by dsimp only;omega,?_⟩,by dsimp only;omega,TB.trans (TB.cellSet (b:=0) (c:=1) (x:=ED ((UA (UA m)[i]).map fun r=>r.val)) rfl rfl (by decide) rfl rfl) ?_⟩
  ·dsimp only
   have hqi:(qM m)[i]'(by omega) = (UA (UA m)[i]).map fun r=>r.val:=by unfold qM;rw [List.getElem_map]
   have hr:jA ((UA m).length - i) (QA:VV) = QA :: jA ((UA m).length - (i + 1)) QA:=by rw [<- List.replicate_succ];congr 1;omega
   rw [ho,hr,List.set_append_right _ _ (by rw [eA,List.length_take];omega),List.take_succ_eq_append_getElem (by omega),List.map_append,hqi,List.append_assoc]
   rw [show i - (((qM m).take i).map ED).length = 0 by rw [eA,List.length_take];omega]
   rfl
  ·rw [oC]
   simp only [YH,nB,nA,IA,if_true,if_false,reduceIte,mA]
   refine TB.head (fN 1) [TA,TA,TA,SA,TA,TA,TA,TA,TA,SA,SA,SA] ?hT ?hH
   case hT=>first | (simp (disch:=omega) only [pD,IB,lB,XA,clean1,uB,reduceIte,iS,iA,iN];done) | rfl
   case hH=>first | (simp (disch:=omega) only [pD,IB,lB,XA,clean1,uB,reduceIte,iS,iA,iN];done) | rfl
theorem kP (b:RR) (z:Int) (h0:b.top ≠ 0) (hz:z = if b.top < 0 then -(b.bot:Int) else (b.bot:Int)):RR.val ⟨(MC z).minus,(MC z).size,b.size⟩ = b.val⁻¹:=by
 have ht:RR.top ⟨(MC z).minus,(MC z).size,b.size⟩ = z:=by rw [<- aG];exact rawZ_val z
 have hb0:b.size.val ≠ 0:=by rw [<- vT];omega
 have hbt:RR.bot ⟨(MC z).minus,(MC z).size,b.size⟩ = b.size.val:=by
  rw [<- RD,OH,if_neg hb0]
 have hbp:b.bot ≠ 0:=by rw [<- RD,OH];split <;> omega
 have hm:b.val * RR.val ⟨(MC z).minus,(MC z).size,b.size⟩ = 1:=by
  unfold RR.val
  rw [ht,hbt,Rat.mkRat_mul_mkRat]
  have hz2:b.top * z = ((b.bot * b.size.val:Nat):Int):=by
   rw [<- vT,Int.natCast_mul,hz]
   split
   ·rename_i h;rw [Int.mul_neg,<- Int.neg_mul,Int.mul_comm];congr 1;omega
   ·rename_i h;rw [Int.mul_comm];congr 1;omega
  rw [hz2]
  have hne:b.bot * b.size.val ≠ 0:=Nat.mul_ne_zero hbp hb0
  rw [Rat.mkRat_eq_div,Rat.div_def]
  exact Rat.mul_inv_cancel _ (by exact_mod_cast hne)
 have hv0:b.val ≠ 0:=fun e=>by rw [e,Rat.zero_mul] at hm;exact absurd hm (by decide)
 calc RR.val ⟨(MC z).minus,(MC z).size,b.size⟩ = (b.val⁻¹ * b.val) * RR.val ⟨(MC z).minus,(MC z).size,b.size⟩:=by rw [Rat.inv_mul_cancel _ hv0,Rat.one_mul]
  _ = b.val⁻¹:=by rw [Rat.mul_assoc,hm,Rat.mul_one]
abbrev c137:CC:=(.seq (.reg [(oD 2 (.box 48 (tP 0))),(oD 3 (.box 48 (tP 1))),(oD 4 (.new 48 [(.bool TA),(.slice QA 0 0),(.slice QA 0 0)])),(mI 5 0)]) (.seq (.seq (.reg [(lT 7 3 3),(oD 8 (.callf (.func 27) [(tP 7)])),(bC 9 .eql 8 0)]) (.cond (tP 9) (.seq (.reg [(oD 10 (.build [(.bool TA),(.slice QA 0 0),(.slice QA 0 0)] [])),(sT 3 4 10),(mI 5 5)]) .ret) .skip)) (.seq (.regn SA [(lT 11 3 3),(oD 12 (.callf (.func 27) [(tP 11)])),(bC 13 .lss 12 0),(lT 14 3 3),(oD 15 (.callf (.func 56) [(tP 14)])),(oD 16 (.callf (.func 89) [(tP 13),(tP 15)])),(fA 17 0 3),(fA 18 1 17),(lF 19 1 18),(oD 20 (.build [(.bool TA),(.slice QA 0 0),(.slice QA 0 0)] [(0,(2,(tP 16))),(2,(1,(tP 19)))])),(oD 6 (.fill 48 [(.bool TA),(.slice QA 0 0),(.slice QA 0 0)])),(sT 3 6 20)]) (.seq (.reg [(lT 21 3 2),(lT 22 3 6),(oD 23 (.callf (.func 21) [(tP 21),(tP 22)])),(sT 3 4 23),(mI 5 0)]) .ret))))
theorem cc137:ZA Tryz.prog [] (Tryz.f137.body.getD .skip) = PA c137:=by kernel_rfl
theorem body137:Tryz.f137.body = PA (Tryz.f137.body.getD .skip):=rfl
theorem rdiv_C (a b:RR) (ha:vD a 9000000) (hb:vD b 9000000) (h0:b.val ≠ 0):YA Tryz.prog 137 [aR a,aR b] (.ret (.tup [aR (eB (a.val / b.val)),aI 0])):=by
 have ht0:b.top ≠ 0:=fun e=>h0 (by unfold RR.val;rw [e];exact Rat.zero_mkRat _)
 have hs:=BG b (hb.mono (by decide))
 have hden:=WQ b (GA hb.2 (by decide))
 have hdl:=PH b.den
 have hf1:=hb.1
 have hf2:=hb.2
 by_cases hneg:b.top < 0
 ·have hsv:dE b.top = -1:=by unfold dE;rw [if_pos hneg]
  rw [hsv] at hs
  have hmk:=WG SA (PG b.den) (by omega)
  rw [show RI.val ⟨SA,PG b.den⟩ = -(b.bot:Int) from by unfold RI.val;rw [if_pos rfl,RD]] at hmk
  have htv:=kP b (-(b.bot:Int)) ht0 (by rw [if_pos hneg])
  have hmul:=kN a ⟨(MC (-(b.bot:Int))).minus,(MC (-(b.bot:Int))).size,b.size⟩ ha ⟨by rw [HB,ZB,Int.natAbs_neg,Int.natAbs_natCast];exact hb.bot (by decide),hf1⟩
  rw [htv,<- Rat.div_def] at hmul
  generalize eB (a.val / b.val) = q at *
  generalize MC (-(b.bot:Int)) = z at *
  refine WA (rs:=[(RV.cell 4 3 SA),(RV.tmp 5)]) Tryz.func137 (fun a w=>Tryz.call137 a w) body137 cc137 (by kernel_rfl) ?_
  rw [Tryz.ntmps137]
  simp only [pC,nA,nS]
  repeat (first | (with_reducible first | refine W8 ?_ | refine VA rfl ?_) | ((with_reducible refine X8 fun K hK=>?_);simp (disch:=first | omega | simp only [sB];omega) only [qB,reduceIte,reduceCtorEq,iT,nA,nS,nM,iA,iS,iM,iN,fU];subst hK) | refine KB (hs) rfl rfl rfl ?_ | refine KB (hden) rfl rfl rfl ?_ | refine KB (hmk) rfl rfl rfl ?_ | refine KB (hmul) rfl rfl rfl ?_)
  exact ⟨_,rfl,rfl⟩
 ·have hsv:dE b.top = 1:=by unfold dE;rw [if_neg hneg,if_neg ht0]
  rw [hsv] at hs
  have hmk:=WG TA (PG b.den) (by omega)
  rw [show RI.val ⟨TA,PG b.den⟩ = (b.bot:Int) from by unfold RI.val;rw [if_neg (by simp),RD]] at hmk
  have htv:=kP b (b.bot:Int) ht0 (by rw [if_neg hneg])
  have hmul:=kN a ⟨(MC (b.bot:Int)).minus,(MC (b.bot:Int)).size,b.size⟩ ha ⟨by rw [HB,ZB,Int.natAbs_natCast];exact hb.bot (by decide),hf1⟩
  rw [htv,<- Rat.div_def] at hmul
  generalize eB (a.val / b.val) = q at *
  generalize MC (b.bot:Int) = z at *
  refine WA (rs:=[(RV.cell 4 3 SA),(RV.tmp 5)]) Tryz.func137 (fun a w=>Tryz.call137 a w) body137 cc137 (by kernel_rfl) ?_
  rw [Tryz.ntmps137]
  simp only [pC,nA,nS]
  repeat (first | (with_reducible first | refine W8 ?_ | refine VA rfl ?_) | ((with_reducible refine X8 fun K hK=>?_);simp (disch:=first | omega | simp only [sB];omega) only [qB,reduceIte,reduceCtorEq,iT,nA,nS,nM,iA,iS,iM,iN,fU];subst hK) | refine KB (hs) rfl rfl rfl ?_ | refine KB (hden) rfl rfl rfl ?_ | refine KB (hmk) rfl rfl rfl ?_ | refine KB (hmul) rfl rfl rfl ?_)
  exact ⟨_,rfl,rfl⟩
def Wf (Q:QM) (n m L:Nat):Prop:=Q.length = n /\ ∀ r ∈ Q,r.length = m /\ ∀ q ∈ r,SB q L
theorem Wf.mono {Q:QM} {n m L K:Nat} (h:Wf Q n m L) (hk:L <= K):Wf Q n m K:=⟨h.1,fun r hr=>⟨(h.2 r hr).1,fun q hq=>((h.2 r hr).2 q hq).mono hk⟩⟩
theorem Wf.row {Q:QM} {n m L i:Nat} (h:Wf Q n m L) (hi:i < n):(Q.getD i []).length = m /\ ∀ q ∈ Q.getD i [],SB q L:=by
 have hi':i < Q.length:=by rw [h.1];exact hi
 rw [bA,aA hi']
 exact h.2 _ (gA hi')
theorem Wf.at {Q:QM} {n m L i k:Nat} (h:Wf Q n m L) (hi:i < n) (hk:k < m):SB (eQ Q i k) L:=by
 have hr:=h.row hi
 unfold eQ
 have hk':k < (Q.getD i []).length:=by rw [hr.1];exact hk
 rw [bA (l:=Q.getD i []),aA hk']
 exact hr.2 _ (gA hk')
theorem Wf.set {Q:QM} {n m L i:Nat} {r:List Rat} (h:Wf Q n m L) (hr:r.length = m) (hq:∀ q ∈ r,SB q L):Wf (Q.set i r) n m L:=by
 refine ⟨by rw [List.length_set];exact h.1,fun x hx=>?_⟩
 rcases List.mem_or_eq_of_mem_set hx with h' | h'
 ·exact h.2 x h'
 ·rw [h'];exact ⟨hr,hq⟩
theorem SB.inv {q:Rat} {L:Nat} (h:SB q L) (hL:1 <= L) (h0:q ≠ 0):SB (1 / q) L:=by
 have hn:q.num ≠ 0:=fun e=>h0 (Rat.num_eq_zero.1 e)
 rw [Rat.div_def,Rat.one_mul]
 refine ⟨?_,?_⟩
 ·rw [Rat.num_inv,Int.natAbs_mul,Int.natAbs_sign_of_ne_zero hn,Nat.one_mul,Int.natAbs_natCast];exact h.2
 ·rw [Rat.den_inv,if_neg hn];exact h.1
theorem qK {a:List Rat} {q:Rat} {L K:Nat} (ha:∀ x ∈ a,SB x L) (hq:SB q K):∀ x ∈ yC a q,SB x (L + K):=by
 intro x hx
 unfold yC at hx
 obtain ⟨y,hy,rfl⟩:=yA.1 hx
 exact (ha y hy).mul hq
theorem fits_addL {a b:List Rat} {L K:Nat} (ha:∀ x ∈ a,SB x L) (hb:∀ x ∈ b,SB x K):∀ x ∈ LN a b,SB x (L + K + 1):=by
 intro x hx
 unfold LN at hx
 obtain ⟨i,hi,rfl⟩:=List.mem_iff_getElem.1 hx
 rw [List.length_zipWith] at hi
 rw [List.getElem_zipWith]
 exact (ha _ (gA _)).add1 (hb _ (gA _))
def SG (Q:QM) (i m L:Nat):Prop:=(Q.getD i []).length = m /\ ∀ q ∈ Q.getD i [],SB q L
theorem SG.mono {Q:QM} {i m L K:Nat} (h:SG Q i m L) (hk:L <= K):SG Q i m K:=⟨h.1,fun q hq=>(h.2 q hq).mono hk⟩
theorem SG.at {Q:QM} {i k m L:Nat} (h:SG Q i m L) (hk:k < m):SB (eQ Q i k) L:=by
 unfold eQ
 have hk':k < (Q.getD i []).length:=by rw [h.1];exact hk
 rw [bA (l:=Q.getD i []),aA hk']
 exact h.2 _ (gA hk')
theorem wf_rows {Q:QM} {n m L:Nat} (hl:Q.length = n) (h:∀ i,i < n -> SG Q i m L):Wf Q n m L:=by
 refine ⟨hl,fun r hr=>?_⟩
 obtain ⟨i,hi,rfl⟩:=List.mem_iff_getElem.1 hr
 have:=h i (by omega)
 unfold SG at this
 rw [bA,aA hi] at this
 exact this
theorem RS {Q:QM} {a k n m L:Nat} (hl:Q.length = n) (ha:a < n) (hk:k < m) (hra:SG Q a m (2 * L)) (hr:∀ i,i < n -> i ≠ a -> SG Q i m L) (j:Nat) (hj:j <= n) :
  (IC Q a k j).length = n /\ (IC Q a k j).getD a [] = Q.getD a [] /\ ∀ i,i < n -> i ≠ a -> (i < j -> SG (IC Q a k j) i m (4 * L + 1)) /\ (j <= i -> (IC Q a k j).getD i [] = Q.getD i []):=by
 induction j with
 | zero=>exact ⟨hl,rfl,fun i hi hia=>⟨fun h=>by omega,fun _=>rfl⟩⟩
 | succ j ih =>
  obtain ⟨h1,h2,h3⟩:=ih (by omega)
  rw [tK]
  unfold dO
  split
  ·rename_i hc
   refine ⟨h1,h2,fun i hi hia=>⟨fun h=>?_,fun h=>(h3 i hi hia).2 (by omega)⟩⟩
   by_cases he:i = j
   ·subst he
    have:=(h3 i hi hia).2 (EA _)
    unfold SG
    rw [this]
    exact (hr i hi hia).mono (by omega)
   ·exact (h3 i hi hia).1 (by omega)
  ·rename_i hc
   have hja:j ≠ a:=fun e=>hc (.inl e)
   have hjr:=(h3 j (by omega) hja).2 (EA _)
   have hrj:SG (IC Q a k j) j m L:=by unfold SG;rw [hjr];exact hr j (by omega) hja
   have hjl:j < (IC Q a k j).length:=by omega
   refine ⟨by rw [List.length_set];exact h1,by rw [pG hja];exact h2,fun i hi hia=>⟨fun h=>?_,fun h=>?_⟩⟩
   ·by_cases he:i = j
    ·subst he
     unfold SG
     rw [KF hjl,h2]
     refine ⟨?_,?_⟩
     ·unfold LN yC
      rw [List.length_zipWith,eA,hrj.1,hra.1,Nat.min_self]
     ·intro q hq
      exact (fits_addL hrj.2 (qK hra.2 (hrj.at hk).neg) q hq).mono (by omega)
    ·unfold SG
     rw [pG (fun e=>he e.symm)]
     exact (h3 i hi hia).1 (by omega)
   ·rw [pG (by omega)]
    exact (h3 i hi hia).2 (by omega)
theorem fS {Q:QM} {a i n m L:Nat} (h:Wf Q n m L) (ha:a < n) (hi:i < n):Wf (GF Q a i) n m L:=by
 have r1:=h.row ha
 have r2:=h.row hi
 unfold GF
 exact (h.set r2.1 r2.2).set r1.1 r1.2
theorem one_fits {Q:QM} {a k n m L:Nat} (h:Wf Q n m L) (ha:a < n) (hk:k < m) (hL:1 <= L) (h0:eQ Q a k ≠ 0) :
  (WJ Q a k).length = n /\ SG (WJ Q a k) a m (2 * L) /\ ∀ i,i < n -> i ≠ a -> SG (WJ Q a k) i m L:=by
 have ra:=h.row ha
 unfold WJ
 refine ⟨by rw [List.length_set];exact h.1,?_,fun i hi hia=>?_⟩
 ·unfold SG
  rw [KF (by rw [h.1];exact ha)]
  refine ⟨by unfold yC;rw [eA];exact ra.1,fun q hq=>(qK ra.2 ((h.at ha hk).inv hL h0) q hq).mono (by omega)⟩
 ·unfold SG
  rw [pG (fun e=>hia e.symm)]
  exact h.row hi
theorem swap_at {Q:QM} {a i k n m L:Nat} (h:Wf Q n m L) (ha:a < n) (hi:i < n):eQ (GF Q a i) a k = eQ Q i k:=by
 unfold eQ GF
 by_cases he:i = a
 ·subst he
  rw [KF (by rw [List.length_set,h.1];exact hi)]
 ·rw [pG he,KF (by rw [h.1];exact ha)]
theorem CP {Q:QM} {n m L:Nat} (h:Wf Q n m L) (hL:1 <= L) (k:Nat) (hk:k <= m) :
  (rC Q k).2.length <= n /\ Wf (rC Q k).1 n m (4 ^ (rC Q k).2.length * (L + 1) - 1) /\ 1 <= 4 ^ (rC Q k).2.length * (L + 1) - 1:=by
 induction k with
 | zero=>exact ⟨fN _,by show Wf Q n m (4 ^ 0 * (L + 1) - 1);rw [Nat.pow_zero,Nat.one_mul];exact h,by show 1 <= 4 ^ 0 * (L + 1) - 1;rw [Nat.pow_zero,Nat.one_mul];omega⟩
 | succ k ih =>
  obtain ⟨h1,h2,h3⟩:=ih (by omega)
  rw [QE]
  generalize rC Q k = S at *
  obtain ⟨M,P⟩:=S
  simp only at h1 h2 h3
  unfold MJ
  simp only
  split
  ·exact ⟨h1,h2,h3⟩
  ·rename_i hp
   have hg:=pivQ_ge (Q:=M) (k:=k) (a:=P.length) (by rw [h2.1];exact h1)
   have hlt:XK M k P.length < M.length:=by omega
   have hi:XK M k P.length < n:=by rw [<- h2.1];exact hlt
   have ha:P.length < n:=by omega
   have hnz:=pivQ_nz (by omega) hlt
   have hs:=fS h2 ha hi
   obtain ⟨o1,o2,o3⟩:=one_fits hs ha (show k < m by omega) h3 (by rw [swap_at h2 ha hi];exact hnz)
   obtain ⟨e1,e2,e3⟩:=RS o1 ha (show k < m by omega) o2 o3 n (EA _)
   have hB:4 * (4 ^ P.length * (L + 1) - 1) + 1 <= 4 ^ (P.length + 1) * (L + 1) - 1:=by
    rw [Nat.pow_succ,Nat.mul_comm _ 4,Nat.mul_assoc]
    generalize 4 ^ P.length * (L + 1) = B at *
    omega
   have h3':1 <= 4 ^ P.length * (L + 1) - 1:=h3
   have hpl:(P ++ [k]).length = P.length + 1:=by rw [sA];rfl
   rw [h2.1]
   simp only [hpl]
   refine ⟨by omega,?_,by omega⟩
   ·refine wf_rows e1 (fun i hi'=>?_)
    by_cases he:i = P.length
    ·subst he
     unfold SG
     rw [e2]
     exact o2.mono (by omega)
    ·exact ((e3 i hi' he).1 hi').mono hB
abbrev QL (l:Option (List Int)):AV:=.one (.c (jB 1 fI l))
def MB (P:List Nat):List Int:=P.map fun n:Nat=>(n:Int)
theorem close_res22 {α β:Type} {f:α -> List CV} {g:β -> List CV} {h:List Blk} {b c ver ver' ty ty' e e':Nat} {live live' nn:Bool} {l:List α} {r:List β} (hk:h[b]? = PA ⟨ver,ty,e,wB f l,live,SA⟩) (h0:0 < e)
  (hk':h[c]? = PA ⟨ver',ty',e',wB g r,live',nn⟩) (h0':0 < e') (hn:nn = !r.isEmpty) :
  fG h (.tup [.one (.own b ver),.one (.own c ver')]) = PA (.tup [.one (.c (jB e f (PA l))),.one (.c (jB e' g (aC r)))]):=by
 have h1:=bT (n:=2) hk h0
 have h2:=BB hk' h0' hn
 unfold fG
 simp only [List.mapM_cons,List.mapM_nil,h1,h2]
 rfl
theorem elimTo_zero (Q:QM) (a k:Nat):IC Q a k 0 = Q:=rfl
theorem intsN_nil:MB [] = []:=rfl
theorem intsN_snoc (P:List Nat) (k:Nat):wB fI (MB P) ++ [[Cell.c (.val (.int .i64 (k:Int)))]] = wB fI (MB (P ++ [k])):=by
 unfold MB;rw [List.map_append];simp [wB,fI]
theorem eC (P:List Nat):(MB P).length = P.length:=by unfold MB;rw [eA]
theorem setM (l:List VV) (i:Nat) (v:VV):(wB fM l).set i [Cell.c (vr v)] = wB fM (l.set i v):=SE l i v
theorem GG {Q:QM} {i:Nat} (h:i < Q.length):(wB fM (Q.map ED))[i]? = PA [Cell.c (vr (ED Q[i]))]:=by
 rw [encB_get _ (by rw [eA];exact h),List.getElem_map];rfl
theorem eQ_in {Q:QM} {i k:Nat} (hi:i < Q.length) (hk:k < Q[i].length):eQ Q i k = Q[i][k]:=by
 unfold eQ;rw [bA,bA,aA hi,DA,aA hk];rfl
theorem YD (r:List Rat):UA (ED r) = r.map eB:=rfl
theorem wf_qM {m:MM} {n L:Nat} (h:LG m n L) (hk:MR m = SA) (hL:1 <= L):Wf (qM m) (UA m).length (cols m) L:=by
 unfold MR at hk
 simp only [JA] at hk
 refine ⟨by unfold qM;rw [eA],fun r hr=>?_⟩
 unfold qM at hr
 obtain ⟨v,hv,rfl⟩:=yA.1 hr
 obtain ⟨i,hi,rfl⟩:=List.mem_iff_getElem.1 hv
 have:=MI hk.1 hi
 rw [mF hi] at this
 refine ⟨by rw [eA];exact this,fun q hq=>?_⟩
 obtain ⟨x,hx,rfl⟩:=yA.1 hq
 exact ((h.2 _ hv).2 x hx).val hL
theorem encSl_rq {l:List Rat} (h:l ≠ []):jB 3 (fun q=>fR (eB q)) (aC l) = vr (ED l):=by
 cases l with
 | nil=>exact (h rfl).elim
 | cons x l=>rw [qS];simp [jB,ED]
theorem vN {r:List Rat} {n L:Nat} (hn:r.length <= n) (h:∀ q ∈ r,SB q L):vC (ED r) n L:=by
 refine ⟨by rw [YD,eA];exact hn,fun x hx=>?_⟩
 rw [YD] at hx
 obtain ⟨q,hq,rfl⟩:=yA.1 hx
 exact QB (h q hq)
theorem AP (r:List Rat) (c:Rat) (n L:Nat) (hn:r.length <= n) (h:∀ q ∈ r,SB q L) (hc:SB c L) (hne:r ≠ []) (hn2:n <= 1000000) (hL:1 <= L) (hL2:L <= 4000000) :
  YA Tryz.prog 44 [aV (ED r),aR (eB c)] (.ret (aV (ED (yC r c)))):=by
 refine (XL (ED r) (eB c) n L (vN hn h) (QB hc) hn2 hL hL2).fresh_rowO.to ?_
 have he:JE (ED r) (eB c).val = yC r c:=by
  unfold JE yC
  rw [YD,uA,rawQ_val]
  apply wA
  intro x _
  show (eB x).val * c = x * c
  rw [rawQ_val]
 rw [he,encSl_rq (by unfold yC;intro e;exact hne (List.map_eq_nil_iff.1 e))]
theorem qAt_rawV {r:List Rat} {i:Nat} (h:i < r.length):jE (ED r) i = r[i]:=by
 unfold jE dF
 rw [YD,bA,aA (by rw [eA];exact h),DA,List.getElem_map,rawQ_val]
theorem rowadd_C (a b:List Rat) (n L:Nat) (hab:a.length = b.length) (hn:a.length <= n) (ha:∀ q ∈ a,SB q L) (hb:∀ q ∈ b,SB q L) (hne:a ≠ []) (hn2:n <= 1000000) (hL:1 <= L) (hL2:L <= 4000000) :
  YA Tryz.prog 32 [aV (ED a),aV (ED b)] (.ret (aV (ED (LN a b)))):=by
 refine (vadd_C (ED a) (ED b) n L (vN hn ha) (vN (by omega) hb) hn2 hL hL2).fresh_rowO.to ?_
 have he:A8 (ED a) (ED b) = LN a b:=by
  unfold A8 LN
  rw [YD,YD,eA,eA,<- hab,Nat.max_self]
  apply List.ext_getElem
  ·rw [eA,List.length_range,List.length_zipWith,<- hab,Nat.min_self]
  ·intro i h1 h2
   rw [eA,List.length_range] at h1
   rw [List.getElem_map,List.getElem_range,List.getElem_zipWith,qAt_rawV h1,qAt_rawV (by omega)]
 rw [he,encSl_rq (by
  intro e
  have:=congrArg List.length e
  unfold LN at this
  rw [List.length_zipWith,<- hab,Nat.min_self] at this
  exact hne (List.length_eq_zero_iff.1 this))]
abbrev c144_k1:CC:=(.seq (.reg [(mV 132 7),(mV 133 8),(mV 2 132),(mV 3 133)]) .ret)
abbrev c144_k2:CC:=(.reg [(bC 131 .add 26 1),(mV 26 131)])
abbrev c144_k3:CC:=(.reg [(mV 127 8),(mV 128 9),(oD 129 (.mkrow 3 1 [(tP 128)])),(oD 130 (.append 3 1 8 (tP 127) (tP 129))),(mV 8 130)])
abbrev c144_b1:CC:=(.seq (.reg [(bB 89 .lss 88 87)]) (.seq (.cond (tP 89) .skip (.exit 4)) (.seq (.block 5 (.seq (.reg [(mV 90 88),(mV 14 90)]) (.seq (.reg [(mV 91 14),(mV 92 10),(bB 93 .neq 91 92),(mV 94 93),(gM 95 94 SA 7),(gM 96 94 SA 14),(oG 97 94 SA (.iaddr 1 QA (tP 95) (tP 96))),(oG 98 94 SA (.load 1 TA (tP 97))),(gM 99 94 SA 9),(oG 100 94 SA (.iaddr 3 QA (tP 98) (tP 99))),(oG 101 94 SA (.load 3 SA (tP 100))),(oG 102 94 SA (.callf (.func 27) [(tP 101)])),(oG 103 94 SA (.bin .neq (tP 102) (.const (.int .i64 (0))))),(pF 104 94 103)]) (.cond (tP 104) (.reg [(mV 105 7),(mV 106 14),(mV 107 7),(mV 108 14),(xA 109 1 107 108),(lF 110 1 109),(mV 111 7),(mV 112 10),(xA 113 1 111 112),(lF 114 1 113),(mV 115 7),(mV 116 14),(xA 117 1 115 116),(lF 118 1 117),(mV 119 9),(xA 120 3 118 119),(lT 121 3 120),(oD 122 (.callf (.func 106) [(tP 121)])),(oD 123 (.callf (.func 44) [(tP 114),(tP 122)])),(oD 124 (.callf (.func 32) [(tP 110),(tP 123)])),(xA 125 1 105 106),(sT 1 125 124)]) .skip)))) (.reg [(bC 126 .add 88 1),(mV 88 126)]))))
abbrev c144_k4:CC:=(.seq (.seq (.reg [(mV 48 11),(mV 49 4),(bB 50 .eql 48 49)]) (.cond (tP 50) (.exit 1) .skip)) (.seq (.reg [(mV 51 7),(mV 52 10),(mV 53 7),(mV 54 11),(mV 55 7),(mV 56 11),(xA 57 1 55 56),(lF 58 1 57),(mV 59 7),(mV 60 10),(xA 61 1 59 60),(lF 62 1 61),(xA 63 1 51 52),(sT 1 63 58),(xA 64 1 53 54),(sT 1 64 62)]) (.seq (.regn SA [(oD 66 (.callf (.func 19) [(.const (.int .i64 (1)))])),(mV 67 7),(mV 68 10),(xA 69 1 67 68),(lF 70 1 69),(mV 71 9),(xA 72 3 70 71),(lT 73 3 72),(oD 74 (.callf (.func 137) [(tP 66),(tP 73)])),(mV 65 74),(eX 75 65 0),(eX 76 65 1),(oD 12 (.fill 48 [(.bool TA),(.slice QA 0 0),(.slice QA 0 0)])),(sT 3 12 75),(mV 13 76)]) (.seq (.reg [(mV 77 7),(mV 78 10),(mV 79 7),(mV 80 10),(xA 81 1 79 80),(lF 82 1 81),(lT 83 3 12),(oD 84 (.callf (.func 44) [(tP 82),(tP 83)])),(xA 85 1 77 78),(sT 1 85 84)]) (.seq (.seq (.reg [(mV 86 7),(nL 87 86),(mI 88 0)]) (.block 4 (.loop c144_b1))) c144_k3)))))
abbrev c144_b2:CC:=(.seq (.seq (.reg [(mV 32 11),(mV 33 4),(bB 34 .lss 32 33),(mV 35 34),(gM 36 35 SA 7),(gM 37 35 SA 11),(oG 38 35 SA (.iaddr 1 QA (tP 36) (tP 37))),(oG 39 35 SA (.load 1 TA (tP 38))),(gM 40 35 SA 9),(oG 41 35 SA (.iaddr 3 QA (tP 39) (tP 40))),(oG 42 35 SA (.load 3 SA (tP 41))),(oG 43 35 SA (.callf (.func 27) [(tP 42)])),(oG 44 35 SA (.bin .eql (tP 43) (.const (.int .i64 (0))))),(pF 45 35 44)]) (.cond (tP 45) .skip (.exit 2))) (.block 3 (.reg [(mV 46 11),(bC 47 .add 46 1),(mV 11 47)])))
abbrev c144_b3:CC:=(.seq (.reg [(bB 27 .lss 26 25)]) (.seq (.cond (tP 27) .skip (.exit 0)) (.seq (.block 1 (.seq (.reg [(mV 28 26),(mV 9 28)]) (.seq (.reg [(mV 29 8),(nL 30 29),(mV 10 30)]) (.seq (.reg [(mV 31 10),(mV 11 31)]) (.seq (.block 2 (.loop c144_b2)) c144_k4))))) c144_k2)))
abbrev c144:CC:=(.seq (.reg [(oD 2 (.mv nC)),(oD 3 (.mv nC))]) (.scope (.seq (.reg [(mV 16 0),(oD 17 (.callf (.func 143) [(tP 16)])),(mV 15 17),(eX 18 15 0),(eX 19 15 1),(eX 20 15 2),(mV 4 18),(mV 5 19),(mV 6 20)]) (.seq (.seq (.reg [(mV 21 6),(uN 22 21)]) (.cond (tP 22) (.seq (.reg [(oD 2 (.mv nC)),(oD 3 (.mv nC))]) .ret) .skip)) (.seq (.reg [(mV 23 0),(oD 24 (.callf (.func 146) [(tP 23)])),(mV 7 24)]) (.seq (.reg [(oD 8 (.mv nC))]) (.seq .skip (.seq (.seq (.reg [(mV 25 5),(mI 26 0)]) (.block 0 (.loop c144_b3))) c144_k1))))))))
theorem cc144:ZA Tryz.prog [] (Tryz.f144.body.getD .skip) = PA c144:=by kernel_rfl
theorem body144:Tryz.f144.body = PA (Tryz.f144.body.getD .skip):=rfl
theorem reduce_C (m:MM) (n L:Nat) (hm:LG m n L) (hn:n <= 1000000) (hL:1 <= L) (hk:MR m = SA) (hB:4 ^ (UA m).length * (L + 1) <= 4000000) :
  YA Tryz.prog 144 [aM m] (.ret (.tup [aM (KT (rC (qM m) (cols m)).1),QL (aC (MB (rC (qM m) (cols m)).2))])):=by
 have hwf:=wf_qM hm hk hL
 have hs:=AT m (by have:=hm.1;omega)
 have hk':=hk
 unfold MR at hk'
 simp only [JA,decide_eq_true_eq] at hk'
 unfold UF at hs
 rw [hk] at hs
 simp only [if_true] at hs
 have h4:1 <= 4 ^ (UA m).length:=Nat.pow_pos (by decide)
 have hL2:L <= 4000000:=by
  have:=Nat.mul_le_mul h4 (EA (L + 1));omega
 have how:=own_C m n L hm hn hL hL2
 have hint:=KE 1 (by omega) (by omega)
 rw [show ((1:Int):Rat) = 1 from rfl] at hint
 generalize hQ0:qM m = Q0 at *
 generalize hN:(UA m).length = N at *
 generalize hW:cols m = W at *
 refine WA (rs:=[(RV.tmp 2),(RV.tmp 3)]) Tryz.func144 (fun a w=>Tryz.call144 a w) body144 cc144 (by kernel_rfl) ?_
 rw [Tryz.ntmps144]
 simp only [pC,nA,nS]
 repeat (first | (with_reducible first | refine W8 ?_ | refine VA rfl ?_) | ((with_reducible refine X8 fun K hK=>?_);simp (disch:=first | omega | simp only [sB];omega) only [qB,reduceIte,reduceCtorEq,iT,nA,nS,nM,iA,iS,iM,iN,fU];subst hK) | refine KB (hs) rfl rfl rfl ?_ | (apply KG (how) rfl;(case hcl=>(simp only [oE,St.ev,yB,NE];(repeat (first | exact kB | (apply gB;(first | (refine CB rfl (by decide)) | (refine BB rfl (by decide) ?_;assumption) | rfl))));done));(case hu=>(simp only [oE,St.ev,yB,NE];(repeat (first | exact RC | (apply AC;(first | (apply xC;rfl) | rfl))));done));(case hh=>((simp only [YH,nB,nA,IA,if_true,if_false,reduceIte]) <;> rfl))))
 refine uD.fgt ?_ (TB.openNil (i:=8) rfl 3 1)
 simp only [lA,mA,pA,oA,qA,rA,nA]
 refine xB (fun (zz:Nat × QM × (List Nat) × Nat × Bool)=>⟨(J4 (aI N :: aI W :: .junk :: .one (.own 0 0) :: .one (.own 1 zz.2.2.2.1) :: L8 (aI W :: aI zz.1 :: K8 (K8 (K8 (J8 (.junk :: .junk :: .junk :: []))))))),[⟨0,23,1,wB fM (zz.2.1.map ED),SA,SA⟩,⟨zz.2.2.2.1,3,1,wB fI (MB zz.2.2.1),SA,zz.2.2.2.2⟩]⟩) (fun (zz:Nat × QM × (List Nat) × Nat × Bool)=>zz.1 <= W /\ (zz.2.1,zz.2.2.1) = rC Q0 zz.1 /\ zz.2.2.2.2 = !zz.2.2.1.isEmpty) (fun (zz:Nat × QM × (List Nat) × Nat × Bool)=>W - zz.1) (0,Q0,[],0,TA) ?hI1 (TB.head (fN 2) [TA,TA,TA,TA,SA,SA,TA,SA,SA,TA,TA,TA,TA,TA,TA,TA,TA,TA,TA,TA,TA,TA,TA,TA,TA,SA,SA] ?hT1 ?hH1) ?hB1
 case hT1 | hH1=>first | (simp (disch:=omega) only [pD,IB,lB,XA,clean1,uB,reduceIte,iS,iA,iN,intsN_nil,CE];done) | rfl
 ·dsimp only;exact ⟨by omega,rfl,rfl⟩
 rintro ⟨k,Q,P,v,nn⟩ ⟨hi,hq,hnn⟩
 dsimp only at hi hq hnn
 have hred:=CP hwf hL k hi
 rw [<- hq] at hred
 simp only at hred
 obtain ⟨hP,hQ,hB1⟩:=hred
 have hBP:4 ^ P.length * (L + 1) - 1 <= 4000000:=by
  have:=Nat.mul_le_mul (Nat.pow_le_pow_right (by decide:0 < 4) hP) (EA (L + 1));omega
 by_cases him:k = W
 ·repeat (first | (with_reducible first | refine W8 ?_ | refine VA rfl ?_) | ((with_reducible refine X8 fun K hK=>?_);simp (disch:=first | omega | simp only [sB];omega) only [qB,reduceIte,reduceCtorEq,iT,nA,nS,nM,iA,iS,iM,iN,fU];subst hK))
  refine ⟨_,rfl,?_⟩
  rw [<- him,<- hq]
  exact close_res22 (l:=Q.map ED) (r:=MB P) rfl (by decide) rfl (by decide) (by rw [hnn];unfold MB;cases P <;> rfl)
 ·have hkW:k < W:=by omega
  repeat (first | (with_reducible first | refine W8 ?_ | refine VA rfl ?_) | ((with_reducible refine X8 fun K hK=>?_);simp (disch:=first | omega | simp only [sB];omega) only [qB,reduceIte,reduceCtorEq,iT,nA,nS,nM,iA,iS,iM,iN,fU,eC];subst hK))
  refine xB (fun (zz:Nat)=>⟨(J4 (aI N :: aI W :: .junk :: .one (.own 0 0) :: .one (.own 1 v) :: aI k :: aI P.length :: aI zz :: J8 (J4 (.junk :: aI W :: aI k :: K8 (K8 (K8 (J8 (.junk :: .junk :: .junk :: [])))))))),[⟨0,23,1,wB fM (Q.map ED),SA,SA⟩,⟨v,3,1,wB fI (MB P),SA,nn⟩]⟩) (fun (zz:Nat)=>P.length <= zz /\ zz <= N /\ sE Q k (N - zz) zz = XK Q k P.length) (fun (zz:Nat)=>N - zz) (P.length) ?hI2 (TB.headA (fN 2) [TA,TA,TA,TA,SA,SA,TA,SA,SA,SA,SA,SA,TA,TA,TA,TA,TA,TA,TA,TA,TA,TA,TA,TA,TA,SA,SA]) ?hB2
  ·exact ⟨by omega,by omega,by unfold XK;rw [hQ.1]⟩
  rintro i ⟨hai,hiN,hpf⟩
  have hQl:=hQ.1
  by_cases hin:i = N
  ·repeat (first | (with_reducible first | refine W8 ?_ | refine VA rfl ?_) | ((with_reducible refine X8 fun K hK=>?_);simp (disch:=first | omega | simp only [sB];omega) only [qB,reduceIte,reduceCtorEq,iT,nA,nS,nM,iA,iS,iM,iN,fU,eC];subst hK))
   refine ⟨(k + 1,Q,P,v,nn),?hI3,?hM3,TB.headA (fN 2) [TA,TA,TA,TA,SA,SA,TA,SA,SA,TA,TA,TA,TA,TA,TA,TA,TA,TA,TA,TA,TA,TA,TA,TA,TA,SA,SA]⟩
   ·dsimp only
    refine ⟨by omega,?_,hnn⟩
    rw [QE,<- hq]
    unfold MJ
    rw [if_pos]
    dsimp only
    rw [<- hpf,hin,Nat.sub_self,hQl]
    rfl
   ·dsimp only;omega
  ·have hilt:i < Q.length:=by omega
   have hrow:=(hQ.2 _ (gA hilt)).1
   have hrl:(UA (ED Q[i])).length = W:=by rw [YD,eA];exact hrow
   have hent:∀ h:k < (UA (ED Q[i])).length,(UA (ED Q[i]))[k]'h = eB (eQ Q i k):=fun h=>by rw [eQ_in hilt (by omega)];simp only [YD,List.getElem_map]
   have hfe:=hQ.at (show i < N by omega) hkW
   have hsg:=BG (eB (eQ Q i k)) ((QB hfe).mono (by omega))
   rw [rawQ_top] at hsg
   by_cases h0:eQ Q i k = 0
   ·rw [h0,show dE (0:Rat).num = 0 from rfl] at hsg
    rw [h0] at hent
    repeat (first | (with_reducible first | refine W8 ?_ | refine VA rfl ?_) | ((with_reducible refine X8 fun K hK=>?_);simp (disch:=first | omega | simp only [sB];omega) only [qB,reduceIte,reduceCtorEq,iT,nA,nS,nM,iA,iS,iM,iN,fU,fR,GG hilt,eA,hrl,hent];subst hK) | refine KB (hsg) rfl rfl rfl ?_)
    refine ⟨(i + 1),?hI4,?hM4,TB.headA (fN 2) [TA,TA,TA,TA,SA,SA,TA,SA,SA,SA,SA,SA,TA,TA,TA,TA,TA,TA,TA,TA,TA,TA,TA,TA,TA,SA,SA]⟩
    ·refine ⟨by omega,by omega,?_⟩
     rw [<- hpf,show N - i = (N - (i + 1)) + 1 by omega]
     conv=>rhs;unfold sE
     rw [if_pos h0]
    ·omega
   ·have hsn:dE (eQ Q i k).num ≠ 0:=by
     have hn0:(eQ Q i k).num ≠ 0:=fun e=>h0 (Rat.num_eq_zero.1 e)
     unfold dE
     split <;> first | decide | (rw [if_neg hn0];decide)
    have hpi:XK Q k P.length = i:=by
     rw [<- hpf,show N - i = (N - (i + 1)) + 1 by omega]
     unfold sE
     rw [if_neg h0]
    have haN:P.length < N:=by omega
    have halt:P.length < Q.length:=by omega
    have hSeq:(Q.set P.length Q[i]).set i Q[P.length] = GF Q P.length i:=by
     unfold GF
     rw [bA,bA,aA hilt,aA halt]
     rfl
    have hgS:=GG (Q:=Q.set P.length Q[i]) (i:=i) (by rw [List.length_set];omega)
    have hSw:=fS hQ haN (by omega:i < N)
    have hSe:eQ (GF Q P.length i) P.length k = eQ Q i k:=swap_at hQ haN (by omega)
    have hstep:rC Q0 (k + 1) = (IC (WJ (GF Q P.length i) P.length k) P.length k N,P ++ [k]):=by
     rw [QE,<- hq]
     unfold MJ
     simp only [hpi]
     rw [if_neg (by omega),hQl]
    have hBs:3 * (4 ^ P.length * (L + 1) - 1) <= 4000000:=by
     have:=Nat.mul_le_mul (Nat.pow_le_pow_right (by decide:0 < 4) (show P.length + 1 <= N from haN)) (EA (L + 1))
     rw [Nat.pow_succ,Nat.mul_comm _ 4,Nat.mul_assoc] at this
     omega
    generalize dE (eQ Q i k).num = sg at *
    generalize GF Q P.length i = S at *
    generalize eQ Q i k = x at *
    generalize hBB:4 ^ P.length * (L + 1) - 1 = B at *
    have hSl:=hSw.1
    have hSlt:P.length < S.length:=by omega
    have hrS:=hSw.2 _ (gA hSlt)
    have hSrl:(UA (ED S[P.length])).length = W:=by rw [YD,eA];exact hrS.1
    have hSent:∀ h:k < (UA (ED S[P.length])).length,(UA (ED S[P.length]))[k] = eB x:=fun h=>by rw [<- hSe,eQ_in hSlt (by omega)];simp only [YD,List.getElem_map]
    have hdiv:=rdiv_C (eB 1) (eB x) (QB (FE _ (by decide))) ((QB hfe).mono (by omega)) (by rw [rawQ_val];exact h0)
    rw [rawQ_val,rawQ_val] at hdiv
    have hsc:=AP S[P.length] (1 / x) W B (by rw [hrS.1];exact EA _) hrS.2 (hfe.inv hB1 h0) (by intro e;have:=hrS.1;rw [e] at this;simp at this;omega) (by omega) hB1 (by omega)
    have hOeq:S.set P.length (yC S[P.length] (1 / x)) = WJ S P.length k:=by
     unfold WJ
     rw [hSe,bA,aA hSlt]
     rfl
    repeat (first | (with_reducible first | refine W8 ?_ | refine VA rfl ?_) | ((with_reducible refine X8 fun K hK=>?_);simp (disch:=first | omega | simp only [sB];omega) only [qB,reduceIte,reduceCtorEq,iT,nA,nS,nM,iA,iS,iM,iN,fU,fR,GG hilt,GG halt,GG hSlt,hgS,eA,List.length_set,setM,<- List.map_set,hSeq,hOeq,hSl,hrl,hent,hSrl,hSent];subst hK) | refine KB (hsg) rfl rfl rfl ?_ | refine KB (hint) rfl rfl rfl ?_ | refine KB (hdiv) rfl rfl rfl ?_ | refine KB (hsc) rfl rfl rfl ?_)
    obtain ⟨o1,o2,o3⟩:=one_fits hSw haN hkW hB1 (by rw [hSe];exact h0)
    generalize WJ S P.length k = O at *
    refine xB (fun (zz:Nat)=>⟨(J4 (aI N :: aI W :: .junk :: .one (.own 0 0) :: .one (.own 1 v) :: aI k :: aI P.length :: J8 (J4 (.junk :: .junk :: aI W :: aI k :: K8 (L8 (J8 (J4 (aI N :: aI zz :: K8 (J8 (J4 (.junk :: []))))))))))),[⟨0,23,1,wB fM ((IC O P.length k zz).map ED),SA,SA⟩,⟨v,3,1,wB fI (MB P),SA,nn⟩]⟩) (fun (zz:Nat)=>zz <= N) (fun (zz:Nat)=>N - zz) (0) ?hI5 (TB.head (fN 2) (F4 (SA :: SA :: TA :: SA :: SA :: SA :: SA :: F8 (F4 (TA :: TA :: SA :: SA :: M8 (F16 (F8 (F4 (SA :: SA :: [])))))))) ?hT5 ?hH5) ?hB5
    case hT5 | hH5=>first | (simp (disch:=omega) only [pD,IB,lB,XA,clean1,uB,reduceIte,iS,iA,iN,elimTo_zero,o1,eA];done) | rfl
    ·exact fN _
    rintro j hjN
    obtain ⟨e1,e2,e3⟩:=RS o1 haN hkW o2 o3 j hjN
    by_cases hjn:j = N
    ·repeat (first | (with_reducible first | refine W8 ?_ | refine VA rfl ?_) | ((with_reducible refine X8 fun K hK=>?_);simp (disch:=first | omega | simp only [sB];omega) only [qB,reduceIte,reduceCtorEq,iT,nA,nS,nM,iA,iS,iM,iN,fU,eC];subst hK))
     refine ⟨(k + 1,IC O P.length k j,P ++ [k],v + 1,SA),?hI6,?hM6,TB.head (fN 2) [TA,TA,TA,TA,SA,SA,TA,SA,SA,TA,TA,TA,TA,TA,TA,TA,TA,TA,TA,TA,TA,TA,TA,TA,TA,SA,SA] ?hT6 ?hH6⟩
     case hT6 | hH6=>first | (simp (disch:=omega) only [pD,IB,lB,XA,clean1,uB,reduceIte,iS,iA,iN,intsN_snoc,kA,KA,LA];done) | rfl
     ·dsimp only
      refine ⟨by omega,?_,by cases P <;> rfl⟩
      rw [hstep,hjn]
     ·dsimp only;omega
    ·have hM:IC O P.length k (j + 1) = dO P.length k (IC O P.length k j) j:=tK _ _ _ _
     by_cases hja:j = P.length
     ·have hM1:IC O P.length k (j + 1) = IC O P.length k j:=by rw [hM];unfold dO;rw [if_pos (.inl hja)]
      repeat (first | (with_reducible first | refine W8 ?_ | refine VA rfl ?_) | ((with_reducible refine X8 fun K hK=>?_);simp (disch:=first | omega | simp only [sB];omega) only [qB,reduceIte,reduceCtorEq,iT,nA,nS,nM,iA,iS,iM,iN,fU];subst hK))
      refine ⟨(j + 1),?hI7,?hM7,TB.head (fN 2) (F4 (SA :: SA :: TA :: SA :: SA :: SA :: SA :: F8 (F4 (TA :: TA :: SA :: SA :: M8 (F16 (F8 (F4 (SA :: SA :: [])))))))) ?hT7 ?hH7⟩
      case hT7 | hH7=>first | (simp (disch:=omega) only [pD,IB,lB,XA,clean1,uB,reduceIte,iS,iA,iN,hM1];done) | rfl
      ·omega
      ·omega
     ·have hjr:=(e3 j (by omega) hja).2 (EA _)
      have hrj:SG (IC O P.length k j) j W B:=by unfold SG;rw [hjr];exact o3 j (by omega) hja
      have hra:SG (IC O P.length k j) P.length W (2 * B):=by unfold SG;rw [e2];exact o2
      generalize IC O P.length k j = M at *
      have hjlt:j < M.length:=by omega
      have haM:P.length < M.length:=by omega
      have hgj:M.getD j [] = M[j]:=by rw [bA,aA hjlt];rfl
      have hga:M.getD P.length [] = M[P.length]:=by rw [bA,aA haM];rfl
      have hfy:=hrj.at hkW
      have hrj2:=hrj
      have hra2:=hra
      unfold SG at hrj2 hra2
      rw [hgj] at hrj2
      rw [hga] at hra2
      have hjl:(UA (ED M[j])).length = W:=by rw [YD,eA];exact hrj2.1
      have hjent:∀ h:k < (UA (ED M[j])).length,(UA (ED M[j]))[k] = eB (eQ M j k):=fun h=>by rw [eQ_in hjlt (by omega)];simp only [YD,List.getElem_map]
      have hsgj:=BG (eB (eQ M j k)) ((QB hfy).mono (by omega))
      rw [rawQ_top] at hsgj
      by_cases hy:eQ M j k = 0
      ·have hM1:IC O P.length k (j + 1) = M:=by rw [hM];unfold dO;rw [if_pos (.inr hy)]
       rw [hy,show dE (0:Rat).num = 0 from rfl] at hsgj
       rw [hy] at hjent
       repeat (first | (with_reducible first | refine W8 ?_ | refine VA rfl ?_) | ((with_reducible refine X8 fun K hK=>?_);simp (disch:=first | omega | simp only [sB];omega) only [qB,reduceIte,reduceCtorEq,iT,nA,nS,nM,iA,iS,iM,iN,fU,fR,GG hjlt,eA,hjl,hjent];subst hK) | refine KB (hsgj) rfl rfl rfl ?_)
       refine ⟨(j + 1),?hI8,?hM8,TB.head (fN 2) (F4 (SA :: SA :: TA :: SA :: SA :: SA :: SA :: F8 (F4 (TA :: TA :: SA :: SA :: M8 (F16 (F8 (F4 (SA :: SA :: [])))))))) ?hT8 ?hH8⟩
       case hT8 | hH8=>first | (simp (disch:=omega) only [pD,IB,lB,XA,clean1,uB,reduceIte,iS,iA,iN,hM1];done) | rfl
       ·omega
       ·omega
      ·have hsn2:dE (eQ M j k).num ≠ 0:=by
        have hn0:(eQ M j k).num ≠ 0:=fun e=>hy (Rat.num_eq_zero.1 e)
        unfold dE
        split <;> first | decide | (rw [if_neg hn0];decide)
       have hM1:IC O P.length k (j + 1) = M.set j (LN M[j] (yC M[P.length] (-(eQ M j k)))):=by
        rw [hM];unfold dO;rw [if_neg (fun h=>h.elim hja hy),hgj,hga]
       have hneg:=FT (eB (eQ M j k)) ((QB hfy).mono (by omega))
       rw [rawQ_val] at hneg
       have hsc2:=AP M[P.length] (-(eQ M j k)) W (2 * B) (by rw [hra2.1];exact EA _) hra2.2 (hfy.neg.mono (by omega)) (by intro e;have:=hra2.1;rw [e] at this;simp at this;omega) (by omega) (by omega) (by omega)
       have hadd:=rowadd_C M[j] (yC M[P.length] (-(eQ M j k))) W (3 * B) (by unfold yC;rw [eA,hra2.1,hrj2.1]) (by rw [hrj2.1];exact EA _) (fun q hq=>(hrj2.2 q hq).mono (by omega)) (fun q hq=>(qK hra2.2 hfy.neg q hq).mono (by omega)) (by intro e;have:=hrj2.1;rw [e] at this;simp at this;omega) (by omega) (by omega) hBs
       generalize dE (eQ M j k).num = sg2 at *
       generalize eQ M j k = y at *
       repeat (first | (with_reducible first | refine W8 ?_ | refine VA rfl ?_) | ((with_reducible refine X8 fun K hK=>?_);simp (disch:=first | omega | simp only [sB];omega) only [qB,reduceIte,reduceCtorEq,iT,nA,nS,nM,iA,iS,iM,iN,fU,fR,GG hjlt,GG haM,eA,setM,<- List.map_set,hjl,hjent];subst hK) | refine KB (hsgj) rfl rfl rfl ?_ | refine KB (hneg) rfl rfl rfl ?_ | refine KB (hsc2) rfl rfl rfl ?_ | refine KB (hadd) rfl rfl rfl ?_)
       refine ⟨(j + 1),?hI9,?hM9,TB.head (fN 2) (F4 (SA :: SA :: TA :: SA :: SA :: SA :: SA :: F8 (F4 (TA :: TA :: SA :: SA :: M8 (F16 (F8 (F4 (SA :: SA :: [])))))))) ?hT9 ?hH9⟩
       case hT9 | hH9=>first | (simp (disch:=omega) only [pD,IB,lB,XA,clean1,uB,reduceIte,iS,iA,iN,hM1];done) | rfl
       ·omega
       ·omega
abbrev aU64 (z:Int):AV:=.one (.c (.val (.int .u64 z)))
theorem JN:∀ n:Nat,n <= 50 -> andI .u64 (n:Int) 4294967295 = (n:Int):=by decide +kernel
theorem bN:∀ n:Nat,n <= 50 -> cN .u64 (n:Int) 32 = 0:=by decide +kernel
abbrev c141:CC:=(.seq (.reg [(oD 4 (.mv (.const (.int .u64 (0))))),(oD 5 (.mv (.const (.int .u64 (0)))))]) (.seq (.reg [(mV 14 0),(oD 15 (.bin .and (tP 14) (.const (.int .u64 (4294967295))))),(mV 6 15)]) (.seq (.reg [(mV 16 0),(oD 17 (.bin .shr (tP 16) (.const (.int .u64 (32))))),(mV 7 17)]) (.seq (.reg [(mV 18 1),(oD 19 (.bin .and (tP 18) (.const (.int .u64 (4294967295))))),(mV 8 19)]) (.seq (.reg [(mV 20 1),(oD 21 (.bin .shr (tP 20) (.const (.int .u64 (32))))),(mV 9 21)]) (.seq (.reg [(mV 22 6),(mV 23 8),(bB 24 .mul 22 23),(mV 10 24)]) (.seq (.reg [(mV 25 7),(mV 26 8),(bB 27 .mul 25 26),(mV 28 10),(oD 29 (.bin .shr (tP 28) (.const (.int .u64 (32))))),(bB 30 .add 27 29),(mV 11 30)]) (.seq (.reg [(mV 31 11),(oD 32 (.bin .and (tP 31) (.const (.int .u64 (4294967295))))),(mV 12 32)]) (.seq (.reg [(mV 33 11),(oD 34 (.bin .shr (tP 33) (.const (.int .u64 (32))))),(mV 13 34)]) (.seq (.reg [(mV 35 12),(mV 36 6),(mV 37 9),(bB 38 .mul 36 37),(bB 39 .add 35 38),(mV 12 39)]) (.seq (.reg [(mV 40 7),(mV 41 9),(bB 42 .mul 40 41),(mV 43 13),(bB 44 .add 42 43),(mV 45 12),(oD 46 (.bin .shr (tP 45) (.const (.int .u64 (32))))),(bB 47 .add 44 46),(mV 4 47)]) (.seq (.reg [(mV 48 0),(mV 49 1),(bB 50 .mul 48 49),(mV 5 50)]) .ret))))))))))))
theorem cc141:ZA Tryz.prog [] (Tryz.f141.body.getD .skip) = PA c141:=by kernel_rfl
theorem body141:Tryz.f141.body = PA (Tryz.f141.body.getD .skip):=rfl
theorem mul64_C (n:Nat) (hn:n <= 50):YA Tryz.prog 141 [aU64 1,aU64 n] (.ret (.tup [aU64 0,aU64 n])):=by
 have a1:=JN 1 (by decide)
 have s1:=bN 1 (by decide)
 have a0:=JN 0 (by decide)
 have s0:=bN 0 (by decide)
 have an:=JN n hn
 have sn:=bN n hn
 have wn:IntKind.u64.wrap (n:Int) = n:=by simp [IntKind.wrap,IntKind.bits,IntKind.signed];omega
 change andI .u64 1 4294967295 = 1 at a1
 change cN .u64 1 32 = 0 at s1
 change andI .u64 0 4294967295 = 0 at a0
 change cN .u64 0 32 = 0 at s0
 refine WA (rs:=[(RV.tmp 4),(RV.tmp 5)]) Tryz.func141 (fun a w=>Tryz.call141 a w) body141 cc141 (by kernel_rfl) ?_
 rw [Tryz.ntmps141]
 simp only [pC,nA,nS]
 repeat (first | (with_reducible first | refine W8 ?_ | refine VA rfl ?_) | ((with_reducible refine X8 fun K hK=>?_);simp (disch:=first | omega | simp only [sB];omega) only [qB,reduceIte,reduceCtorEq,iT,nA,nS,nM,iA,iS,iM,iN,fU,a1,s1,a0,s0,an,sn,wn,Int.one_mul,Int.zero_mul,Int.mul_zero,Int.add_zero,Int.zero_add];subst hK))
 exact ⟨_,rfl,rfl⟩
abbrev c122:CC:=(.seq (.reg [(oD 4 (.mv (.const (.int .u64 (0))))),(oD 5 (.mv (.const (.int .u64 (0)))))]) (.seq (.cond (.const (.bool TA)) (.seq (.reg [(mV 11 0),(oD 12 (.conv .u32 (tP 11))),(mV 13 1),(oD 14 (.conv .u32 (tP 13))),(oD 15 (.callf (.func 140) [(tP 12),(tP 14)])),(mV 10 15),(eX 16 10 0),(eX 17 10 1),(mV 6 16),(mV 7 17)]) (.seq (.reg [(mV 18 6),(oD 19 (.conv .u64 (tP 18))),(mV 20 7),(oD 21 (.conv .u64 (tP 20))),(mV 4 19),(mV 5 21)]) .ret)) .skip) (.seq (.reg [(mV 23 0),(mV 24 1),(oD 25 (.callf (.func 141) [(tP 23),(tP 24)])),(mV 22 25),(eX 26 22 0),(eX 27 22 1),(mV 8 26),(mV 9 27)]) (.seq (.reg [(mV 28 8),(mV 29 9),(mV 4 28),(mV 5 29)]) .ret))))
theorem cc122:ZA Tryz.prog [] (Tryz.f122.body.getD .skip) = PA c122:=by kernel_rfl
theorem body122:Tryz.f122.body = PA (Tryz.f122.body.getD .skip):=rfl
theorem mulb_C (n:Nat) (hn:n <= 50):YA Tryz.prog 122 [aU64 1,aU64 n] (.ret (.tup [aU64 0,aU64 n])):=by
 have h:=mul64_C n hn
 refine WA (rs:=[(RV.tmp 4),(RV.tmp 5)]) Tryz.func122 (fun a w=>Tryz.call122 a w) body122 cc122 (by kernel_rfl) ?_
 rw [Tryz.ntmps122]
 simp only [pC,nA,nS]
 repeat (first | (with_reducible first | refine W8 ?_ | refine VA rfl ?_) | ((with_reducible refine X8 fun K hK=>?_);simp (disch:=first | omega | simp only [sB];omega) only [qB,reduceIte,reduceCtorEq,iT,nA,nS,nM,iA,iS,iM,iN,fU];subst hK) | refine KB (h) rfl rfl rfl ?_)
 exact ⟨_,rfl,rfl⟩
abbrev c118:CC:=(.seq (.reg [(mB 2 TA)]) (.seq (.reg [(mV 3 0),(mV 4 0),(bB 5 .neq 3 4),(mV 2 5)]) .ret))
theorem cc118:ZA Tryz.prog [] (Tryz.f118.body.getD .skip) = PA c118:=by kernel_rfl
theorem body118:Tryz.f118.body = PA (Tryz.f118.body.getD .skip):=rfl
theorem isnan_C (x:Int):YA Tryz.prog 118 [aI x] (.ret (aB TA)):=by
 refine WA (rs:=[(RV.tmp 2)]) Tryz.func118 (fun a w=>Tryz.call118 a w) body118 cc118 (by kernel_rfl) ?_
 rw [Tryz.ntmps118]
 simp only [pC,nA,nS]
 repeat (first | (with_reducible first | refine W8 ?_ | refine VA rfl ?_) | ((with_reducible refine X8 fun K hK=>?_);simp (disch:=first | omega | simp only [sB];omega) only [qB,reduceIte,reduceCtorEq,iT,nA,nS,nM,iA,iS,iM,iN,fU];subst hK))
 exact ⟨_,rfl,rfl⟩
abbrev c81:CC:=(.seq (.reg [(mB 4 TA)]) (.seq (.reg [(mV 5 0),(oD 6 (.callf (.func 118) [(tP 5)])),(mV 7 6),(gM 8 7 SA 1),(oG 9 7 SA (.callf (.func 118) [(tP 8)])),(oG 10 7 SA (.un .not (tP 9))),(pF 11 7 10),(mV 12 11),(gM 13 12 TA 0),(gM 14 12 TA 1),(oG 15 12 TA (.bin .lss (tP 13) (tP 14))),(pT 16 12 15),(mV 4 16)]) .ret))
theorem cc81:ZA Tryz.prog [] (Tryz.f81.body.getD .skip) = PA c81:=by kernel_rfl
theorem body81:Tryz.f81.body = PA (Tryz.f81.body.getD .skip):=rfl
theorem less_C (x y:Int):YA Tryz.prog 81 [aI x,aI y] (.ret (aB (decide (x < y)))):=by
 have h1:=isnan_C x
 have h2:=isnan_C y
 by_cases h:x < y
 ·rw [decide_eq_true h]
  refine WA (rs:=[(RV.tmp 4)]) Tryz.func81 (fun a w=>Tryz.call81 a w) body81 cc81 (by kernel_rfl) ?_
  rw [Tryz.ntmps81]
  simp only [pC,nA,nS]
  repeat (first | (with_reducible first | refine W8 ?_ | refine VA rfl ?_) | ((with_reducible refine X8 fun K hK=>?_);simp (disch:=first | omega | simp only [sB];omega) only [qB,reduceIte,reduceCtorEq,iT,nA,nS,nM,iA,iS,iM,iN,fU];subst hK) | refine KB (h1) rfl rfl rfl ?_ | refine UJ (h2) ?_)
  exact ⟨_,rfl,rfl⟩
 ·rw [decide_eq_false h]
  refine WA (rs:=[(RV.tmp 4)]) Tryz.func81 (fun a w=>Tryz.call81 a w) body81 cc81 (by kernel_rfl) ?_
  rw [Tryz.ntmps81]
  simp only [pC,nA,nS]
  repeat (first | (with_reducible first | refine W8 ?_ | refine VA rfl ?_) | ((with_reducible refine X8 fun K hK=>?_);simp (disch:=first | omega | simp only [sB];omega) only [qB,reduceIte,reduceCtorEq,iT,nA,nS,nM,iA,iS,iM,iN,fU];subst hK) | refine KB (h1) rfl rfl rfl ?_ | refine UJ (h2) ?_)
  exact ⟨_,rfl,rfl⟩
def xT (l:List Int):Bool:=(List.range (l.length - 1)).all fun i=>!decide (l.getD (i + 1) 0 < l.getD i 0)
theorem srtB_iff {l:List Int}:xT l = SA ↔ ∀ i,i + 1 < l.length -> ¬ l.getD (i + 1) 0 < l.getD i 0:=by
 unfold xT
 rw [List.all_eq_true]
 constructor
 ·intro h i hi
  have:=h i (zA.2 (by omega))
  simpa using this
 ·intro h i hi
  have:=h i (by have:=zA.1 hi;omega)
  simpa using this
abbrev c40_k1:CC:=(.seq (.reg [(mB 2 SA)]) .ret)
abbrev c40_b1:CC:=(.seq (.seq (.reg [(mV 7 3),(bC 8 .gtr 7 0)]) (.cond (tP 8) .skip (.exit 0))) (.seq (.block 1 (.seq (.reg [(mV 11 0),(mV 12 3),(xA 13 1 11 12),(lF 14 1 13),(mV 15 0),(mV 16 3),(bC 17 .sub 16 1),(xA 18 1 15 17),(lF 19 1 18),(oD 20 (.callf (.func 81) [(tP 14),(tP 19)]))]) (.cond (tP 20) (.seq (.reg [(mB 2 TA)]) .ret) .skip))) (.reg [(mV 9 3),(bC 10 .sub 9 1),(mV 3 10)])))
abbrev c40:CC:=(.seq (.reg [(mB 2 TA)]) (.seq (.seq (.reg [(mV 4 0),(nL 5 4),(bC 6 .sub 5 1),(mV 3 6)]) (.block 0 (.loop c40_b1))) c40_k1))
theorem cc40:ZA Tryz.prog [] (Tryz.f40.body.getD .skip) = PA c40:=by kernel_rfl
theorem body40:Tryz.f40.body = PA (Tryz.f40.body.getD .skip):=rfl
theorem sorted_C (b:Option (List Int)) (hl:(UA b).length <= 1000000):YA Tryz.prog 40 [QL b] (.ret (aB (xT (UA b)))):=by
 refine WA (rs:=[(RV.tmp 2)]) Tryz.func40 (fun a w=>Tryz.call40 a w) body40 cc40 (by kernel_rfl) ?_
 rw [Tryz.ntmps40]
 simp only [pC,nA,nS]
 repeat (first | (with_reducible first | refine W8 ?_ | refine VA rfl ?_) | ((with_reducible refine X8 fun K hK=>?_);simp (disch:=first | omega | simp only [sB];omega) only [qB,reduceIte,reduceCtorEq,iT,nA,nS,nM,iA,iS,iM,iN,fU];subst hK))
 refine xB (fun (zz:Int)=>⟨(QL b :: .junk :: .junk :: aI zz :: L8 (.junk :: [])),[]⟩) (fun (zz:Int)=>(-1 <= zz /\ zz <= (UA b).length - 1) /\ ∀ i:Nat,zz < (i:Int) + 1 -> i + 1 < (UA b).length -> ¬ (UA b).getD (i + 1) 0 < (UA b).getD i 0) (fun (zz:Int)=>(zz + 1).toNat) (((UA b).length:Int) - 1) ?hI1 (TB.headA (EA _) [SA,TA,TA,SA]) ?hB1
 ·exact ⟨⟨by omega,by omega⟩,fun i h1 h2=>by omega⟩
 rintro z ⟨⟨h0,h1⟩,hs⟩
 by_cases hz:0 < z
 ·obtain ⟨i,rfl⟩:∃ i:Nat,z = (i:Int) + 1:=⟨(z - 1).toNat,by omega⟩
  have hi1:i + 1 < (UA b).length:=by omega
  have hi0:i < (UA b).length:=by omega
  have g1:(UA b)[i + 1] = (UA b).getD (i + 1) 0:=by rw [bA,aA hi1];rfl
  have g0:(UA b)[i] = (UA b).getD i 0:=by rw [bA,aA hi0];rfl
  have hle:=less_C ((UA b).getD (i + 1) 0) ((UA b).getD i 0)
  have hs1:(i:Int) + 1 = ((i + 1:Nat):Int):=by omega
  have hs2:((i + 1:Nat):Int) - 1 = (i:Int):=by omega
  rw [hs1]
  have hz1:(0:Int) < ((i + 1:Nat):Int):=by omega
  by_cases hlt:(UA b).getD (i + 1) 0 < (UA b).getD i 0
  ·rw [decide_eq_true hlt] at hle
   have hno:xT (UA b) = TA:=by
    cases h:xT (UA b) with
    | false=>rfl
    | true=>exact absurd hlt (srtB_iff.1 h i hi1)
   rw [hno]
   repeat (first | (with_reducible first | refine W8 ?_ | refine VA rfl ?_) | ((with_reducible refine X8 fun K hK=>?_);simp (disch:=first | omega | simp only [sB];omega) only [qB,reduceIte,reduceCtorEq,iT,nA,nS,nM,iA,iS,iM,iN,fU,fI,hs2,g0,g1];subst hK) | refine KB (hle) rfl rfl rfl ?_)
   exact ⟨_,rfl,rfl⟩
  ·rw [decide_eq_false hlt] at hle
   repeat (first | (with_reducible first | refine W8 ?_ | refine VA rfl ?_) | ((with_reducible refine X8 fun K hK=>?_);simp (disch:=first | omega | simp only [sB];omega) only [qB,reduceIte,reduceCtorEq,iT,nA,nS,nM,iA,iS,iM,iN,fU,fI,hs2,g0,g1];subst hK) | refine KB (hle) rfl rfl rfl ?_)
   refine ⟨((i:Int)),?hI2,?hM2,TB.headA (EA _) [SA,TA,TA,SA]⟩
   ·refine ⟨⟨by omega,by omega⟩,fun j h2 h3=>?_⟩
    rcases Nat.lt_or_ge i j with h4 | h4
    ·exact hs j (by omega) h3
    ·have:j = i:=by omega
     rw [this];exact hlt
   ·omega
 ·have hyes:xT (UA b) = SA:=srtB_iff.2 (fun i hi=>hs i (by omega) hi)
  rw [hyes]
  repeat (first | (with_reducible first | refine W8 ?_ | refine VA rfl ?_) | ((with_reducible refine X8 fun K hK=>?_);simp (disch:=first | omega | simp only [sB];omega) only [qB,reduceIte,reduceCtorEq,iT,nA,nS,nM,iA,iS,iM,iN,fU];subst hK))
  exact ⟨_,rfl,rfl⟩
theorem made_int (n:Nat):(madeCells (Value.cells (.int .i64 0)) (n * 1)).toList = jA n (.int .i64 0):=by
 unfold madeCells
 refine List.ext_getElem (by simp) (fun i h1 h2=>?_)
 simp [Value.cells,Nat.mod_one]
theorem mul_calls (n:Nat) (hn:n <= 50) (W:World):Calls Tryz.prog 122 #[.int .u64 1,.int .u64 (n:Int)] W fun e W'=>e = .returned (.tuple #[.int .u64 0,.int .u64 (n:Int)]) /\ Below W.heap.size W W':=by
 refine ((mulb_C n hn).2 W (fun _=>False) [_,_] ⟨fun g hg=>hg.elim,fun g l hl=>by cases hl⟩ (.cons (.one _ _ (.c _ _ (.val _ rfl))) (.cons (.one _ _ (.c _ _ (.val _ rfl))) .nil))).mono ?_
 rintro e W' ⟨v,rfl,hb,hr⟩
 refine ⟨?_,hb⟩
 cases hr with
 | tup l vs hl hv =>
  match vs,hl with
  | [a,b],_ =>
   have h0:=(hv 0 _ a rfl rfl).val
   have h1:=(hv 1 _ b rfl rfl).val
   rw [h0,h1]
theorem qP {α:Type} (x z:α) (n m c:Nat) (h:m + c <= n):splice (jA m x ++ jA (n - m) z) m (jA c x) = jA (m + c) x ++ jA (n - (m + c)) z:=by
 unfold splice
 rw [List.take_left' (tA),List.drop_append,tA,tA]
 rw [List.drop_eq_nil_of_le (by rw [tA];omega),qA,List.drop_replicate,<- List.append_assoc,List.replicate_append_replicate]
 congr 2
 omega
theorem oN {w:World} {base g n:Nat} (ho:w.ownsRow base 3 1 (.slice (PA ⟨g,0,QA⟩) n n) n (madeCells (Value.cells (.int .i64 0)) (n * 1)).toList):w.heap[g]? = PA (.cells (jA 0 (Value.int .i64 (-1)) ++ jA (n - 0) (Value.int .i64 0)).toArray 3 (0,0)) /\ base <= g:=by
 rcases ho.2 with ⟨h,_⟩ | ⟨g',cap,cur,hh,hb,hg,_,_,hcs,ht⟩
 ·cases h
 ·simp only [Value.slice.injEq,BA,Addr.mk.injEq,true_and,and_true] at hh
  obtain ⟨rfl,rfl⟩:=hh
  rw [made_int,List.take_of_length_le (by simp;omega)] at ht
  refine ⟨?_,hb⟩
  rw [hg]
  congr 2
  apply Array.ext'
  rw [ht];rfl
set_option maxRecDepth 1000000 in
set_option maxHeartbeats 400000 in
theorem repeat_walk (g0 o0 n:Nat) (w:World) (hn:n <= 50) (hg0:g0 < w.heap.size) (hc0:w.cell? ⟨g0,o0,QA⟩ = PA (.int .i64 (-1))) :
  Calls Tryz.prog 86 #[.slice (PA ⟨g0,o0,QA⟩) 1 1,.int .i64 (n:Int)] w fun e w'=>∃ g,e = .returned (.slice (PA ⟨g,0,QA⟩) n n) /\ w.heap.size <= g /\
   w'.heap[g]? = PA (.cells (jA n (Value.int .i64 (-1))).toArray 3 (0,0)) /\ Below w.heap.size w w':=by
 have hmul:=mul_calls n hn w
 go_enter Tryz.func86,Tryz.ntmps86
 go_wp2_with fail
 go_call hmul as e w1 ⟨he,hb1⟩
 subst he
 have hcX:w1.cell? ⟨g0,o0,QA⟩ = PA (.int .i64 (-1)):=by rw [hb1.cell hg0];exact hc0
 have hinfo:∃ i,Tryz.prog.info? 3 = PA i /\ i.zero = PA (.int .i64 0) /\ i.size = 1 /\ i.bytes = 8:=⟨_,rfl,rfl,rfl,rfl⟩
 obtain ⟨inf,hi1,hi2,hi3,hi4⟩:=hinfo
 have hcp:∀ m c:Nat,m + c <= n -> (jA m (Value.int .i64 (-1)) ++ jA (n - m) (Value.int .i64 0)).length = n:=fun m c h=>by simp;omega
 have hsrc:∀ w2:World,w2.cell? ⟨g0,o0,QA⟩ = PA (.int .i64 (-1)) -> ∀ (j:Nat) (v:Value),(jA (min 1 n) (Value.int .i64 (-1)))[j]? = PA v -> w2.cell? ((⟨g0,o0,QA⟩:Addr).add j) = PA v:=fun w2 hc2 j v hj=>by
  rw [List.getElem?_replicate] at hj
  split at hj
  ·rename_i hj1
   have:j = 0:=by omega
   subst this
   cases hj
   exact hc2
  ·cases hj
 have h1c:∀ k:Nat,∀ v ∈ jA k (Value.int .i64 (-1)),v.oneCell' = SA:=fun k v hv=>by rw [(List.mem_replicate.1 hv).2];rfl
 have hgr:∀ w2:World,w1.grownBy w2 QA -> Below w.heap.size w w2:=fun w2 hg2=>hb1.grown hg2 hb1.size (fun k hk=>by cases hk)
 have hsz:(Tryz.prog.info? 3).map (·.size) = PA 1:=by rw [hi1];exact congrArg PA hi3
 have hl1:(jA (min 1 n) (Value.int .i64 (-1))).length = Nat.min 1 n:=by simp
 have hl2:0 + (jA (min 1 n) (Value.int .i64 (-1))).length <= (jA 0 (Value.int .i64 (-1)) ++ jA (n - 0) (Value.int .i64 0)).length:=by simp;omega
 have hfirst:∀ w2:World,w1.grownBy w2 QA -> w2.cell? ⟨g0,o0,QA⟩ = PA (.int .i64 (-1)):=fun w2 hg2=>by rw [(hgr w2 hg2).cell hg0];exact hc0
 go_wp2_with (first
  | (at_make;refine wpList_make_full _ rfl _ _ 35 rfl w.heap.size 3 inf (.int .i64 0) 1 Tryz.underlying35 hi1 hi2 hi3 .i64 .i64 _ _ n rfl rfl rfl rfl (by rw [hi4];omega) (by unfold maxLen;omega) hb1.size ?_;intro w2 ho2 hg2)
  | (refine wpList_copy_splice rfl (.tmp 31) (.tmp 32) 35 35 rfl 3 Tryz.underlying35 hsz _ _ n n 1 1 rfl rfl w1.heap.size 0 (jA 0 (Value.int .i64 (-1)) ++ jA (n - 0) (Value.int .i64 0)) 3 (oN ho2).1 (jA (min 1 n) (Value.int .i64 (-1))) hl1 (fun _=>⟨rfl,_,rfl,hsrc _ (hfirst _ hg2)⟩) hl2 (h1c _) w.heap.size w (hgr _ hg2) (oN ho2).2 ?_;intro w3 hg3 hb3)
  | fail)
 rw [qP _ _ n 0 (min 1 n) (by omega),Nat.zero_add] at hg3
 have hgB:=(oN ho2).2
 go_loopw [8] (fun v wr=>∃ m:Nat,m <= n /\ (n = 0 \/ 1 <= m) /\ v = .int .i64 (m:Int) /\ wr.heap[w1.heap.size]? = PA (.cells (jA m (Value.int .i64 (-1)) ++ jA (n - m) (Value.int .i64 0)).toArray 3 (0,0)) /\ Below w.heap.size w wr) (fun v _=>((n:Int) - intOf v).toNat)
 case atStart=>exact ⟨min 1 n,by omega,by omega,rfl,hg3,hb3⟩
 case round =>
  obtain ⟨m,hm,hm1,rfl,hgr3,hbr⟩:=hrel
  by_cases hmn:m = n
  ·subst hmn
   go_wp2_with fail
   go_ret
   refine ⟨_,rfl,hgB,?_,hbr⟩
   rw [hgr3,Nat.sub_self,List.replicate_zero,List.append_nil]
   try simp
  ·have hlt:m < n:=by omega
   go_wp2_with fail
   have hlc:(jA (min m (n - m)) (Value.int .i64 (-1))).length = Nat.min m (n - m):=by simp
   have hfit:m + (jA (min m (n - m)) (Value.int .i64 (-1))).length <= (jA m (Value.int .i64 (-1)) ++ jA (n - m) (Value.int .i64 0)).length:=by simp;omega
   have hsrc2:∀ W:World,W.heap[w1.heap.size]? = PA (.cells (jA m (Value.int .i64 (-1)) ++ jA (n - m) (Value.int .i64 0)).toArray 3 (0,0)) -> ∀ (j:Nat) (v:Value),(jA (min m (n - m)) (Value.int .i64 (-1)))[j]? = PA v -> W.cell? ((⟨w1.heap.size,0,QA⟩:Addr).add j) = PA v:=fun W hW j v hj=>by
    rw [List.getElem?_replicate] at hj
    split at hj
    ·rename_i hj1
     cases hj
     rw [TC]
     have:j < m:=by omega
     simp only [World.cell?,hW,Nat.zero_add]
     simp [List.getElem?_append,this]
    ·cases hj
   have hne:¬ n = m:=fun e=>hmn e.symm
   have hbd:Below w.heap.size w wr.drew:=hbr.drew
   go_region_law (refine step_copy_splice rfl (.tmp 41) (.tmp 44) 35 35 rfl 3 Tryz.underlying35 hsz (if n = m then PA ⟨w1.heap.size,0,QA⟩ else PA ⟨w1.heap.size,m,QA⟩) (PA ⟨w1.heap.size,0,QA⟩) (n - m) (n - m) m n (by go_simp) (by go_simp) w1.heap.size m (jA m (Value.int .i64 (-1)) ++ jA (n - m) (Value.int .i64 0)) 3 hgr3 (jA (min m (n - m)) (Value.int .i64 (-1))) hlc (fun _=>⟨if_neg hne,_,rfl,hsrc2 wr.drew hgr3⟩) hfit (h1c _) w.heap.size w hbd hgB ?_;intro w4 hg4 hb4)
   have hwr:IntKind.i64.wrap ((m:Int) + ((m.min (n - m):Nat):Int)) = ((m + min m (n - m):Nat):Int):=by
    have e:m.min (n - m) = min m (n - m):=rfl
    rw [e]
    simp [IntKind.wrap,IntKind.bits,IntKind.signed]
    omega
   rw [qP _ _ n m (min m (n - m)) (by omega)] at hg4
   rw [hwr]
   simp only [List.getElem_toArray,List.getElem_cons_succ,List.getElem_cons_zero]
   go_frame
   go_wp2_with fail
   refine ⟨⟨m + min m (n - m),by omega,by omega,rfl,hg4,hb4⟩,?_⟩
   simp only [intOf]
   omega
open Go.Maps (Keyed int_keyed keyOf_int_mk IsMap)
theorem keyH:Keyed Tryz.prog 3:=int_keyed Tryz.underlying3
theorem zeroH (w:World):(zeroValue 3).run Tryz.prog w = .ok (.int .i64 0) w:=by kernel_rfl
def Hom (w:World) (b:Nat) (L:List (Int × Int)):Prop:=∃ D:DataW Unit,w.ownsMap Tryz.prog 3 (plainElem Tryz.prog 3) b L.length D /\ IsMap D /\
 ∀ z zd,D.atKey (.int .i64 z) zd = (match L.lookup z with | some v=>.lit (.int .i64 v) | none=>zd)
theorem hom_made (w:World):Hom (w.alloc (.map #[] 0)) w.heap.size []:=⟨_,World.ownsMap_made w _ _ _,⟨[],rfl⟩,fun z zd=>rfl⟩
theorem hom_look {w:World} {b:Nat} {L:List (Int × Int)} (h:Hom w b L) {z:Int} (hz:(Lit.int .i64 z).wf = SA) :
  (Instr.lookup 86 (.map (PA b)) (.int .i64 z) SA).run Tryz.prog w = .ok (.tuple #[.int .i64 ((L.lookup z).getD 0),.bool (L.lookup z).isSome]) w:=by
 obtain ⟨D,h1,h2,h3⟩:=h
 obtain ⟨v,ps,hrun,hv⟩:=h1.look_ok keyH Tryz.underlying86 (zeroH w) (plainElem_int Tryz.underlying3 (by decide)) (keyOf_int_mk Tryz.underlying3 hz)
 rw [h3 z] at hv
 cases hl:L.lookup z with
 | none =>
  have e:Maps.has D (.int .i64 z) = TA:=Maps.has_false_of_atKey (fun zd=>by rw [h3 z,hl])
  rw [e] at hrun
  rw [hl] at hv
  obtain ⟨a,rfl,ha,_⟩:=plainElem_int_inv Tryz.underlying3 hv
  simp only [MA,DataW.lit.injEq,Lit.int.injEq,true_and] at ha
  obtain ⟨rfl,_⟩:=ha
  exact hrun
 | some c =>
  have e:Maps.has D (.int .i64 z) = SA:=Maps.has_true_of_atKey (y:=.lit (.int .i64 c)) (fun zd=>by rw [h3 z,hl])
  rw [e] at hrun
  rw [hl] at hv
  obtain ⟨a,rfl,ha,_⟩:=plainElem_int_inv Tryz.underlying3 hv
  simp only [MA,DataW.lit.injEq,Lit.int.injEq,true_and] at ha
  obtain ⟨rfl,_⟩:=ha
  exact hrun
theorem hom_put {w:World} {b:Nat} {L:List (Int × Int)} (h:Hom w b L) (hl:L.length < 1000000) {z v:Int} (hz:(Lit.int .i64 z).wf = SA) (hv:(Lit.int .i64 v).wf = SA) :
  ∃ w',(Instr.mapUpdate 86 (.map (PA b)) (.int .i64 z) (.int .i64 v)).run Tryz.prog w = .ok () w' /\ Hom w' b ((z,v) :: L) /\ w.grownBy w' (PA b):=by
 obtain ⟨D,h1,h2,h3⟩:=h
 obtain ⟨w',hrun,ho,hg⟩:=h1.update keyH Tryz.underlying86 (by unfold maxLen;omega) (keyOf_int_mk Tryz.underlying3 hz) (plainElem_int Tryz.underlying3 hv)
 refine ⟨w',hrun,⟨_,ho,?_,fun y zd=>?_⟩,hg⟩
 ·obtain ⟨es,rfl⟩:=h2
  exact ⟨_,rfl⟩
 ·by_cases hy:y = z
  ·subst hy
   rw [Maps.atKey_put_same h2 (by trivial)]
   simp
  ·rw [Maps.atKey_put_other (fun e=>hy (by injection e)),h3 y]
   rw [List.lookup_cons]
   have:(y == z) = TA:=by simpa using hy
   rw [this]
theorem Hom.grown {w w':World} {b:Nat} {L:List (Int × Int)} (h:Hom w b L) {row:Option Nat} (hg:w.grownBy w' row) (hr:PA b ≠ row):Hom w' b L:=by
 obtain ⟨D,h1,h2,h3⟩:=h
 exact ⟨D,h1.kept hg hr,h2,h3⟩
theorem Hom.lt {w:World} {b:Nat} {L:List (Int × Int)} (h:Hom w b L):b < w.heap.size:=by
 obtain ⟨D,h1,_⟩:=h
 exact h1.lt
theorem Hom.below {w w':World} {b:Nat} {L:List (Int × Int)} (h:Hom w b L) (hb:Below w.heap.size w w'):Hom w' b L:=by
 refine h.grown (row:=QA) ⟨hb.os,hb.tape,hb.output,hb.size,fun k hk _=>hb.block k hk⟩ (by simp)
theorem cell_grown {w w':World} {row:Option Nat} (hg:w.grownBy w' row) {g off:Nat} (hlt:g < w.heap.size) (hne:row ≠ PA g):w'.cell? ⟨g,off,QA⟩ = w.cell? ⟨g,off,QA⟩ :=
 World.cell?_of_block (w:=w) (hg.block g hlt (fun e=>hne e.symm))
def pK (key:Nat -> Nat -> Int) (j:Nat) (base:List (Int × Int)):Nat -> List (Int × Int)
 | 0=>base
 | i + 1=>(key j i,(j:Int)) :: pK key j base i
def RF (key:Nat -> Nat -> Int) (len:Nat -> Nat):Nat -> List (Int × Int)
 | 0=>[]
 | j + 1=>pK key j (RF key len j) (len j)
def okK (nv:Nat) (L:List (Int × Int)) (z:Int):Bool:=decide (0 <= z) && (decide (z < nv) && !(L.lookup z).isSome)
def okIn (nv:Nat) (key:Nat -> Nat -> Int) (j:Nat) (base:List (Int × Int)) (i:Nat):Bool:=(List.range i).all fun a=>okK nv (pK key j base a) (key j a)
def wM (nv:Nat) (key:Nat -> Nat -> Int) (len:Nat -> Nat) (j:Nat):Bool:=(List.range j).all fun a=>okIn nv key a (RF key len a) (len a)
theorem okIn_succ (nv:Nat) (key:Nat -> Nat -> Int) (j:Nat) (base:List (Int × Int)) (i:Nat):okIn nv key j base (i + 1) = (okIn nv key j base i && okK nv (pK key j base i) (key j i)):=by
 unfold okIn;rw [List.range_succ,List.all_append];simp
theorem okTo_succ (nv:Nat) (key:Nat -> Nat -> Int) (len:Nat -> Nat) (j:Nat):wM nv key len (j + 1) = (wM nv key len j && okIn nv key j (RF key len j) (len j)):=by
 unfold wM;rw [List.range_succ,List.all_append];simp
theorem okTo_false {nv:Nat} {key:Nat -> Nat -> Int} {len:Nat -> Nat} {j i m:Nat} (hj:j < m) (hi:i < len j) (h:okK nv (pK key j (RF key len j) i) (key j i) = TA):wM nv key len m = TA:=by
 unfold wM
 rw [List.all_eq_false]
 refine ⟨j,zA.2 hj,?_⟩
 have:okIn nv key j (RF key len j) (len j) = TA:=by
  unfold okIn
  rw [List.all_eq_false]
  exact ⟨i,zA.2 hi,by simp [h]⟩
 simp [this]
theorem GQ (key:Nat -> Nat -> Int) (j:Nat) (base:List (Int × Int)):∀ i,(pK key j base i).length = base.length + i
 | 0=>rfl
 | i + 1=>by show (pK key j base i).length + 1 = _;rw [GQ key j base i];omega
theorem hmTo_len (key:Nat -> Nat -> Int) (len:Nat -> Nat) {M:Nat} (h:∀ j,len j <= M):∀ j,(RF key len j).length <= j * M
 | 0=>fN _
 | j + 1=>by
  show (pK key j (RF key len j) (len j)).length <= _
  rw [GQ,Nat.succ_mul]
  have:=hmTo_len key len h j
  have:=h j
  omega
def SL (nv nb:Nat) (key:Nat -> Nat -> Int) (len:Nat -> Nat) (w:World) (e:Ending) (w':World):Prop :=
 (wM nv key len nb = SA -> ∃ b,e = .returned (.tuple #[.map (PA b),.bool SA]) /\ Hom w' b (RF key len nb) /\ w.heap.size <= b) /\
   (wM nv key len nb = TA -> e = .returned (.tuple #[.map QA,.bool TA])) /\ Below w.heap.size w w'
set_option maxRecDepth 1000000 in
theorem homes_walk (av ac ar ab:Option Addr) (nv kv nc kc nr kr nb kb:Nat) (p:Nat -> Option Addr) (len cap:Nat -> Nat) (key:Nat -> Nat -> Int) (w:World) (hkb:nb <= kb) (hnb:nb <= 100) (hln:∀ j,len j <= 100) (hlc:∀ j,j < nb -> len j <= cap j)
  (hc:∀ j,j < nb -> ∃ g off,ab = PA ⟨g,off,QA⟩ /\ g < w.heap.size /\ w.cell? ⟨g,off + j,QA⟩ = PA (.slice (p j) (len j) (cap j)))
  (hk:∀ j,j < nb -> ∀ i,i < len j -> ∃ g off,p j = PA ⟨g,off,QA⟩ /\ g < w.heap.size /\ w.cell? ⟨g,off + i,QA⟩ = PA (.int .i64 (key j i)))
  (h64:∀ j,j < nb -> ∀ i,i < len j -> (Lit.int .i64 (key j i)).wf = SA) :
  Calls Tryz.prog 39 #[.agg #[.slice av nv kv,.slice ac nc kc,.slice ar nr kr],.agg #[.slice ab nb kb]] w (SL nv nb key len w):=by
 go_enter Tryz.func39,Tryz.ntmps39
 have hmk:∀ w0:World,_:=fun w0=>run_makeMap (P:=Tryz.prog) 86 w0
 go_wp2
 go_loopw [17] (fun n wr=>∃ j:Nat,j <= nb /\ n = .int .i64 (j:Int) /\ Below w.heap.size w wr /\ Hom wr (w.heap.size + 1 + 1) (RF key len j) /\ wM nv key len j = SA /\ wr.cell? ⟨w.heap.size,0,QA⟩ = PA (.slice av nv kv)) (fun n _=>((nb:Int) - intOf n).toNat)
 case atStart =>
  refine ⟨0,by omega,rfl,(((Below.refl _ _).alloc (EA _) _).alloc (by simp) _).alloc (by simp;omega) _,?_,rfl,?_⟩
  ·have:=hom_made ((w.alloc (Obj.cells #[Value.slice av nv kv,Value.slice ac nc kc,Value.slice ar nr kr] 26)).alloc (Obj.cells #[Value.slice ab nb kb] 29))
   simpa [RF] using this
  ·simp [go_sem]
 case round =>
  obtain ⟨j,hj,rfl,hb,hs,hall,hcv⟩:=hrel
  by_cases hjl:j = nb
  ·subst hjl
   go_wp2
   go_ret2
   unfold SL
   refine ⟨fun _=>⟨_,rfl,hs,by omega⟩,?_,hb⟩
   intro h
   rw [hall] at h
   cases h
  ·have hlt:j < nb:=by omega
   obtain ⟨g,off,rfl,hg,c0⟩:=hc j hlt
   rw [<- hb.cell hg] at c0
   have hkj:=hk j hlt
   have h64j:=h64 j hlt
   have hlj:=hlc j hlt
   have hl100:=hln j
   have hwf:(Lit.int .i64 (j:Int)).wf = SA:=by simp [Lit.wf,IntKind.min,IntKind.max,IntKind.signed,IntKind.bits];omega
   go_wp2_with fail
   go_loopw [24] (fun n wr=>∃ i:Nat,i <= len j /\ n = .int .i64 (i:Int) /\ Below w.heap.size w wr /\ Hom wr (w.heap.size + 1 + 1) (pK key j (RF key len j) i) /\ okIn nv key j (RF key len j) i = SA /\ wr.cell? ⟨w.heap.size,0,QA⟩ = PA (.slice av nv kv)) (fun n _=>((len j:Int) - intOf n).toNat)
   case atStart=>exact ⟨0,by omega,rfl,hb,hs,rfl,hcv⟩
   case round =>
    obtain ⟨i,hi,rfl,hb,hs,hin,hcv⟩:=hrel
    by_cases hil:i = len j
    ·subst hil
     go_wp2
     refine ⟨⟨j + 1,by omega,by rw [show (((j + 1:Nat):Int)) = (j:Int) + 1 by omega],hb,hs,by rw [okTo_succ,hall,hin];rfl,hcv⟩,?_⟩
     simp only [intOf]
     omega
    ·have hlt2:i < len j:=by omega
     obtain ⟨g2,off2,hp,hg2,c2⟩:=hkj i hlt2
     rw [hp]
     rw [<- hb.cell hg2] at c2
     have hlk:=hom_look hs (h64j i hlt2)
     have hfin:okK nv (pK key j (RF key len j) i) (key j i) = TA -> wM nv key len nb = TA:=fun h=>okTo_false hlt hlt2 h
     have hll:(pK key j (RF key len j) i).length < 1000000:=by
      rw [GQ]
      have:=hmTo_len key len hln j
      have:j * 100 <= 100 * 100:=Nat.mul_le_mul (by omega) (EA _)
      have:=hln j
      omega
     obtain ⟨w3,hrun3,hs3,hg3⟩:=hom_put hs hll (h64j i hlt2) hwf
     by_cases h1:key j i < 0
     ·have hno:=hfin (by unfold okK;rw [decide_eq_false (by omega)];rfl)
      go_wp2
      go_ret2
      unfold SL
      exact ⟨fun h=>(by rw [hno] at h;cases h),fun _=>rfl,hb⟩
     ·by_cases h2:(nv:Int) <= key j i
      ·have hno:=hfin (by unfold okK;rw [decide_eq_false (p:=key j i < nv) (by omega)];simp)
       go_wp2
       go_ret2
       unfold SL
       exact ⟨fun h=>(by rw [hno] at h;cases h),fun _=>rfl,hb⟩
      ·cases h3:((pK key j (RF key len j) i).lookup (key j i)).isSome with
       | true =>
        rw [h3] at hlk
        have hno:=hfin (by unfold okK;rw [h3];simp)
        go_wp2
        go_ret2
        unfold SL
        exact ⟨fun h=>(by rw [hno] at h;cases h),fun _=>rfl,hb⟩
       | false =>
        rw [h3] at hlk
        have hyes:okK nv (pK key j (RF key len j) i) (key j i) = SA:=by unfold okK;rw [h3,decide_eq_true (show 0 <= key j i by omega),decide_eq_true (show key j i < nv by omega)];rfl
        go_wp2
        refine ⟨⟨i + 1,hlt2,by rw [show (((i + 1:Nat):Int)) = (i:Int) + 1 by omega],hb.grown hg3 hb.size (fun k hk=>by cases hk;omega),hs3,by rw [okIn_succ,hin,hyes];rfl,?_⟩,?_⟩
        ·rw [cell_grown hg3 (show w.heap.size < wr.heap.size by have:=hs.lt;omega) (fun e=>by have:=Option.some.inj e;omega)]
         exact hcv
        ·simp only [intOf]
         omega
def aQ (l:List Rat):VV:=aC (l.map eB)
structure PB where
 A:MM
 B:VV
 C:VV
abbrev aP (p:PB):AV:=.agg [.c (jB 1 fM p.A),.c (vr p.B),.c (vr p.C)]
abbrev aRg1 (p:PB):AV:=.one (.fn 90 [.iptr [jB 1 fM p.A,vr p.B,vr p.C]])
def AF (p:PB) (i:Nat):Bool:=!decide ((UA (RJ p.A i)).length = (UA p.C).length)
def AD (p:PB):Bool:=decide ((UA p.C).length <= 5000) && (decide ((UA p.A).length <= 90) && (decide ((UA p.B).length = (UA p.A).length) && !jG (AF p) (UA p.A).length))
abbrev c90:CC:=(.seq (.reg [(mB 3 TA)]) (.seq (.reg [(mV 4 0),(nL 5 4),(fA 6 2 1),(lF 7 1 6),(nL 8 7),(bB 9 .neq 5 8),(mV 3 9)]) .ret))
theorem cc90:ZA Tryz.prog [] (Tryz.f90.body.getD .skip) = PA c90:=by kernel_rfl
theorem body90:Tryz.f90.body = PA (Tryz.f90.body.getD .skip):=rfl
theorem right1_C (v:VV) (a b:CV) (c:VV):YA Tryz.prog 90 [aV v,.one (.iptr [a,b,vr c])] (.ret (aB (!decide ((UA v).length = (UA c).length)))):=by
 by_cases h:(UA v).length = (UA c).length
 ·rw [decide_eq_true h]
  refine WA (rs:=[(RV.tmp 3)]) Tryz.func90 (fun a w=>Tryz.call90 a w) body90 cc90 (by kernel_rfl) ?_
  rw [Tryz.ntmps90]
  simp only [pC,nA,nS]
  repeat (first | (with_reducible first | refine W8 ?_ | refine VA rfl ?_) | ((with_reducible refine X8 fun K hK=>?_);simp (disch:=first | omega | simp only [sB];omega) only [qB,reduceIte,reduceCtorEq,iT,nA,nS,nM,iA,iS,iM,iN,fU,h];subst hK))
  exact ⟨_,rfl,rfl⟩
 ·rw [decide_eq_false h]
  refine WA (rs:=[(RV.tmp 3)]) Tryz.func90 (fun a w=>Tryz.call90 a w) body90 cc90 (by kernel_rfl) ?_
  rw [Tryz.ntmps90]
  simp only [pC,nA,nS]
  repeat (first | (with_reducible first | refine W8 ?_ | refine VA rfl ?_) | ((with_reducible refine X8 fun K hK=>?_);simp (disch:=first | omega | simp only [sB];omega) only [qB,reduceIte,reduceCtorEq,iT,nA,nS,nM,iA,iS,iM,iN,fU];subst hK))
  exact ⟨_,rfl,rfl⟩
abbrev c126_k1:CC:=(.seq (.reg [(mI 4 (-1))]) .ret)
abbrev c126_b1:CC:=(.seq (.reg [(bB 9 .lss 8 7)]) (.seq (.cond (tP 9) .skip (.exit 0)) (.seq (.block 1 (.seq (.reg [(mV 10 8),(mV 5 10)]) (.seq (.reg [(mV 11 1),(mV 12 0),(mV 13 5),(xA 14 1 12 13),(lF 15 1 14),(oD 16 (.callf (tP 11) [(tP 15)]))]) (.cond (tP 16) (.seq (.reg [(mV 17 5),(mV 4 17)]) .ret) .skip)))) (.reg [(bC 18 .add 8 1),(mV 8 18)]))))
abbrev c126:CC:=(.seq (.reg [(mI 4 0)]) (.seq (.seq (.reg [(mV 6 0),(nL 7 6),(mI 8 0)]) (.block 0 (.loop c126_b1))) c126_k1))
theorem cc126:ZA Tryz.prog [] (Tryz.f126.body.getD .skip) = PA c126:=by kernel_rfl
theorem body126:Tryz.f126.body = PA (Tryz.f126.body.getD .skip):=rfl
theorem idxM_C (p:PB) (hl:(UA p.A).length <= 1000000) :
  YA Tryz.prog 126 [aM p.A,aRg1 p] (.ret (aI (sN (AF p) (UA p.A).length))):=by
 refine WA (rs:=[(RV.tmp 4)]) Tryz.func126 (fun a w=>Tryz.call126 a w) body126 cc126 (by kernel_rfl) ?_
 rw [Tryz.ntmps126]
 simp only [pC,nA,nS]
 repeat (first | (with_reducible first | refine W8 ?_ | refine VA rfl ?_) | ((with_reducible refine X8 fun K hK=>?_);simp (disch:=first | omega | simp only [sB];omega) only [qB,reduceIte,reduceCtorEq,iT,nA,nS,nM,iA,iS,iM,iN,fU];subst hK))
 refine xB (fun (zz:Nat)=>⟨(aM p.A :: aRg1 p :: .junk :: .junk :: aI 0 :: .junk :: aM p.A :: aI (UA p.A).length :: aI zz :: J8 (.junk :: .junk :: [])),[]⟩) (fun (zz:Nat)=>zz <= (UA p.A).length /\ jG (AF p) zz = TA) (fun (zz:Nat)=>(UA p.A).length - zz) (0) ?hI1 (TB.headA (EA _) [SA,SA,TA,TA,SA,TA,SA,SA,SA]) ?hB1
 ·exact ⟨fN _,rfl⟩
 rintro i ⟨hi,hs⟩
 by_cases him:i = (UA p.A).length
 ·repeat (first | (with_reducible first | refine W8 ?_ | refine VA rfl ?_) | ((with_reducible refine X8 fun K hK=>?_);simp (disch:=first | omega | simp only [sB];omega) only [qB,reduceIte,reduceCtorEq,iT,nA,nS,nM,iA,iS,iM,iN,fU];subst hK))
  rw [SI (by rw [<- him];exact hs)]
  exact ⟨_,rfl,rfl⟩
 ·have hlt:i < (UA p.A).length:=by omega
  have hz:=right1_C (UA p.A)[i] (jB 1 fM p.A) (vr p.B) p.C
  have hb:AF p i = !decide ((UA (UA p.A)[i]).length = (UA p.C).length):=by unfold AF;rw [mF hlt]
  by_cases he:(UA (UA p.A)[i]).length = (UA p.C).length
  ·rw [decide_eq_true he] at hz hb
   repeat (first | (with_reducible first | refine W8 ?_ | refine VA rfl ?_) | ((with_reducible refine X8 fun K hK=>?_);simp (disch:=first | omega | simp only [sB];omega) only [qB,reduceIte,reduceCtorEq,iT,nA,nS,nM,iA,iS,iM,iN,fU,fM,Bool.not_true];subst hK) | refine zcV (hz) rfl rfl rfl ?_)
   refine ⟨(i + 1),?hI2,?hM2,TB.headA (EA _) [SA,SA,TA,TA,SA,TA,SA,SA,SA]⟩
   ·exact ⟨Nat.succ_le_of_lt hlt,by rw [UK,hs,hb];rfl⟩
   ·show (UA p.A).length - (i + 1) < (UA p.A).length - i;omega
  ·rw [decide_eq_false he] at hz hb
   repeat (first | (with_reducible first | refine W8 ?_ | refine VA rfl ?_) | ((with_reducible refine X8 fun K hK=>?_);simp (disch:=first | omega | simp only [sB];omega) only [qB,reduceIte,reduceCtorEq,iT,nA,nS,nM,iA,iS,iM,iN,fU,fM,LA];subst hK) | refine zcV (hz) rfl rfl rfl ?_)
   rw [QI hlt hs (by rw [hb];rfl)]
   exact ⟨_,rfl,rfl⟩
abbrev c91:CC:=(.seq (.reg [(mB 4 TA)]) (.seq (.reg [(mV 5 0),(mV 6 1),(oD 7 (.callf (.func 126) [(tP 5),(tP 6)])),(bC 8 .geq 7 0),(mV 4 8)]) .ret))
theorem cc91:ZA Tryz.prog [] (Tryz.f91.body.getD .skip) = PA c91:=by kernel_rfl
theorem body91:Tryz.f91.body = PA (Tryz.f91.body.getD .skip):=rfl
theorem conM_C (p:PB) (hl:(UA p.A).length <= 1000000) :
  YA Tryz.prog 91 [aM p.A,aRg1 p] (.ret (aB (jG (AF p) (UA p.A).length))):=by
 have hx:=idxM_C p hl
 rw [<- HQ]
 generalize sN (AF p) (UA p.A).length = k at *
 refine WA (rs:=[(RV.tmp 4)]) Tryz.func91 (fun a w=>Tryz.call91 a w) body91 cc91 (by kernel_rfl) ?_
 rw [Tryz.ntmps91]
 simp only [pC,nA,nS]
 repeat (first | (with_reducible first | refine W8 ?_ | refine VA rfl ?_) | ((with_reducible refine X8 fun K hK=>?_);simp (disch:=first | omega | simp only [sB];omega) only [qB,reduceIte,reduceCtorEq,iT,nA,nS,nM,iA,iS,iM,iN,fU];subst hK) | refine KB (hx) rfl rfl rfl ?_)
 exact ⟨_,rfl,rfl⟩
abbrev c48:CC:=(.seq (.reg [(oD 1 (.box 34 (tP 0))),(mB 2 TA)]) (.seq (.reg [(oD 4 (.mkfn 90 [(tP 1)])),(mV 3 4)]) (.seq (.reg [(fA 5 2 1),(lF 6 1 5),(nL 7 6),(bC 8 .leq 7 5000),(mV 9 8),(oG 10 9 SA (.faddr 0 (tP 1))),(oG 11 9 SA (.load 1 TA (tP 10))),(oG 12 9 SA (.len TA (tP 11))),(oG 13 9 SA (.bin .leq (tP 12) (.const (.int .i64 (90))))),(pF 14 9 13),(mV 15 14),(oG 16 15 SA (.faddr 1 (tP 1))),(oG 17 15 SA (.load 1 TA (tP 16))),(oG 18 15 SA (.len TA (tP 17))),(oG 19 15 SA (.faddr 0 (tP 1))),(oG 20 15 SA (.load 1 TA (tP 19))),(oG 21 15 SA (.len TA (tP 20))),(oG 22 15 SA (.bin .eql (tP 18) (tP 21))),(pF 23 15 22),(mV 24 23),(oG 25 24 SA (.faddr 0 (tP 1))),(oG 26 24 SA (.load 1 TA (tP 25))),(gM 27 24 SA 3),(oG 28 24 SA (.callf (.func 91) [(tP 26),(tP 27)])),(oG 29 24 SA (.un .not (tP 28))),(pF 30 24 29),(mV 2 30)]) .ret)))
theorem cc48:ZA Tryz.prog [] (Tryz.f48.body.getD .skip) = PA c48:=by kernel_rfl
theorem body48:Tryz.f48.body = PA (Tryz.f48.body.getD .skip):=rfl
theorem eM (p:PB):YA Tryz.prog 48 [aP p] (.ret (aB (AD p))):=by
 unfold AD
 by_cases h1:(UA p.C).length <= 5000
 ·rw [decide_eq_true h1,Bool.true_and]
  by_cases h2:(UA p.A).length <= 90
  ·rw [decide_eq_true h2,Bool.true_and]
   by_cases h3:(UA p.B).length = (UA p.A).length
   ·rw [decide_eq_true h3,Bool.true_and]
    have hx:=conM_C p (by omega)
    generalize jG (AF p) (UA p.A).length = k at *
    refine WA (rs:=[(RV.tmp 2)]) Tryz.func48 (fun a w=>Tryz.call48 a w) body48 cc48 (by kernel_rfl) ?_
    rw [Tryz.ntmps48]
    simp only [pC,nA,nS]
    repeat (first | (with_reducible first | refine W8 ?_ | refine VA rfl ?_) | ((with_reducible refine X8 fun K hK=>?_);simp (disch:=first | omega | simp only [sB];omega) only [qB,reduceIte,reduceCtorEq,iT,nA,nS,nM,iA,iS,iM,iN,fU,h3];subst hK) | (apply ZE (by simp (disch:=first | omega | (simp only [sB];omega)) only [qB,reduceIte,reduceCtorEq,iT,nA,nS,nM,iA,iS,iM,iN,fU,h3]) (hx) rfl;(case hcl=>(simp only [oE,St.ev,yB,NE];(repeat (first | exact kB | (apply gB;(first | (refine CB rfl (by decide)) | (refine BB rfl (by decide) ?_;assumption) | rfl))));done));(case hf=>rfl)))
    exact ⟨_,rfl,rfl⟩
   ·rw [decide_eq_false h3,Bool.false_and]
    refine WA (rs:=[(RV.tmp 2)]) Tryz.func48 (fun a w=>Tryz.call48 a w) body48 cc48 (by kernel_rfl) ?_
    rw [Tryz.ntmps48]
    simp only [pC,nA,nS]
    repeat (first | (with_reducible first | refine W8 ?_ | refine VA rfl ?_) | ((with_reducible refine X8 fun K hK=>?_);simp (disch:=first | omega | simp only [sB];omega) only [qB,reduceIte,reduceCtorEq,iT,nA,nS,nM,iA,iS,iM,iN,fU];subst hK))
    exact ⟨_,rfl,rfl⟩
  ·rw [decide_eq_false h2,Bool.false_and]
   refine WA (rs:=[(RV.tmp 2)]) Tryz.func48 (fun a w=>Tryz.call48 a w) body48 cc48 (by kernel_rfl) ?_
   rw [Tryz.ntmps48]
   simp only [pC,nA,nS]
   repeat (first | (with_reducible first | refine W8 ?_ | refine VA rfl ?_) | ((with_reducible refine X8 fun K hK=>?_);simp (disch:=first | omega | simp only [sB];omega) only [qB,reduceIte,reduceCtorEq,iT,nA,nS,nM,iA,iS,iM,iN,fU];subst hK))
   exact ⟨_,rfl,rfl⟩
 ·rw [decide_eq_false h1,Bool.false_and]
  refine WA (rs:=[(RV.tmp 2)]) Tryz.func48 (fun a w=>Tryz.call48 a w) body48 cc48 (by kernel_rfl) ?_
  rw [Tryz.ntmps48]
  simp only [pC,nA,nS]
  repeat (first | (with_reducible first | refine W8 ?_ | refine VA rfl ?_) | ((with_reducible refine X8 fun K hK=>?_);simp (disch:=first | omega | simp only [sB];omega) only [qB,reduceIte,reduceCtorEq,iT,nA,nS,nM,iA,iS,iM,iN,fU];subst hK))
  exact ⟨_,rfl,rfl⟩
def UY (r:RR):Bool:=decide (r.val < 0)
theorem I1 (r:RR):decide (dE r.top < 0) = UY r:=by
 unfold UY
 have h:r.val < 0 ↔ r.top < 0:=by
  have h1:=xM (n:=r.top) (m:=0) (d:=r.bot) (e:=1) r.bot_ne (by decide)
  rw [show mkRat 0 1 = (0:Rat) from rfl] at h1
  unfold RR.val
  rw [h1]
  simp
 unfold dE
 by_cases h1:r.top < 0
 ·rw [if_pos h1,decide_eq_true (h.2 h1)];rfl
 ·rw [if_neg h1,decide_eq_false (fun e=>h1 (h.1 e))]
  split <;> rfl
def pR (p:PB) (n L:Nat):Prop:=LG p.A n L /\ vC p.B n L /\ vC p.C n L
abbrev c16:CC:=(.seq (.reg [(mB 4 TA)]) (.seq (.reg [(mV 5 0),(mV 6 1),(oD 7 (.callf (.func 46) [(tP 5),(tP 6),(.func 47)])),(mV 4 7)]) .ret))
theorem cc16:ZA Tryz.prog [] (Tryz.f16.body.getD .skip) = PA c16:=by kernel_rfl
theorem body16:Tryz.f16.body = PA (Tryz.f16.body.getD .skip):=rfl
theorem vsame_C (a b:VV) (n L:Nat) (ha:vC a n L) (hb:vC b n L) (hn:n <= 1000000) (hL2:L <= 1000000):YA Tryz.prog 16 [aV a,aV b] (.ret (aB (lM a b))):=by
 have he:=equalf_C a b n L ha hb hn hL2
 refine WA (rs:=[(RV.tmp 4)]) Tryz.func16 (fun a w=>Tryz.call16 a w) body16 cc16 (by kernel_rfl) ?_
 rw [Tryz.ntmps16]
 simp only [pC,nA,nS]
 repeat (first | (with_reducible first | refine W8 ?_ | refine VA rfl ?_) | ((with_reducible refine X8 fun K hK=>?_);simp (disch:=first | omega | simp only [sB];omega) only [qB,reduceIte,reduceCtorEq,iT,nA,nS,nM,iA,iS,iM,iN,fU];subst hK) | refine KB (he) rfl rfl rfl ?_)
 exact ⟨_,rfl,rfl⟩
abbrev c115_k1:CC:=(.seq (.reg [(mI 4 (-1))]) .ret)
abbrev c115_b1:CC:=(.seq (.reg [(bB 9 .lss 8 7)]) (.seq (.cond (tP 9) .skip (.exit 0)) (.seq (.block 1 (.seq (.reg [(mV 10 8),(mV 5 10)]) (.seq (.reg [(mV 11 1),(mV 12 0),(mV 13 5),(xA 14 3 12 13),(lT 15 3 14),(oD 16 (.callf (tP 11) [(tP 15)]))]) (.cond (tP 16) (.seq (.reg [(mV 17 5),(mV 4 17)]) .ret) .skip)))) (.reg [(bC 18 .add 8 1),(mV 8 18)]))))
abbrev c115:CC:=(.seq (.reg [(mI 4 0)]) (.seq (.seq (.reg [(mV 6 0),(nL 7 6),(mI 8 0)]) (.block 0 (.loop c115_b1))) c115_k1))
theorem cc115:ZA Tryz.prog [] (Tryz.f115.body.getD .skip) = PA c115:=by kernel_rfl
theorem body115:Tryz.f115.body = PA (Tryz.f115.body.getD .skip):=rfl
abbrev c75:CC:=(.seq (.reg [(mB 4 TA)]) (.seq (.reg [(mV 5 0),(mV 6 1),(oD 7 (.callf (.func 115) [(tP 5),(tP 6)])),(bC 8 .geq 7 0),(mV 4 8)]) .ret))
theorem cc75:ZA Tryz.prog [] (Tryz.f75.body.getD .skip) = PA c75:=by kernel_rfl
theorem body75:Tryz.f75.body = PA (Tryz.f75.body.getD .skip):=rfl
end Go.Proofs.YtncgbjhojbnecaaGreat
