/- Walks of offcutlaw08: Few; model: Feasible, Value; shape: Back. -/
import Derived.Test.YtncgbjhojbnecaaGreatU10
import Derived.Test.YtncgbjhojbnecaaGreatU11
set_option linter.unusedSimpArgs false
set_option linter.unusedVariables false
set_option linter.unnecessarySimpa false
set_option maxRecDepth 100000
set_option maxHeartbeats 4000000
open Bool renaming true -> SA, false -> TA, or_true -> KA, not_false -> LA, and_eq_true -> JA, false_eq_true -> IA
open Option renaming some -> PA, none -> QA, getD_some -> DA
open List renaming mem_range -> zA, getD_eq_getElem?_getD -> bA, getElem?_eq_getElem -> aA, length_map -> eA, set_cons_succ -> lA, set_cons_zero -> mA, length_nil -> pA, length_cons -> oA, nil_append -> qA, cons_append -> rA, getElem_mem -> gA, isEmpty_cons -> kA, replicate -> jA, length_append -> sA, length_replicate -> tA
open Go.Am.Way renaming imp -> W8
open Go.Am.WayR renaming imp -> X8
open Nat renaming zero_le -> fN, le_refl -> EA, le_trans -> GA
namespace Go.Proofs.YtncgbjhojbnecaaGreat
open Go Go.Am Go.Proofs Go.RowKit Go.Off
open Nat renaming reduceAdd -> nA,reduceSub -> nS,reduceMul -> nM,reduceBEq -> nB
open Int renaming reduceToNat -> iT,reduceAdd -> iA,reduceSub -> iS,reduceMul -> iM,reduceNeg -> iN
theorem gD (h:List Blk) (s:List UInt8):OF h SA (.one (.c (.str s))) = PA s.length:=rfl
def wP (m:MD) (i:Nat):Bool:=decide (((UA m.vars).getD i []).length <= 20)
def VF (m:MD) (i:Nat):Bool:=decide ((MG m i).name.length <= 20) && (YJ (MG m i).coef && YJ (PA [(MG m i).b]))
def KN (q:Nat -> Bool) (n:Nat):Bool:=(List.range n).all q
theorem VK (q:Nat -> Bool) (n:Nat):KN q (n + 1) = (KN q n && q n):=by unfold KN;rw [List.range_succ,List.all_append];simp
theorem aF {q:Nat -> Bool} {k n:Nat} (hk:k < n) (h:q k = TA):KN q n = TA:=by
 unfold KN
 rw [List.all_eq_false]
 exact ⟨k,zA.2 hk,by simp [h]⟩
theorem BU {q:Nat -> Bool} {k n:Nat} (h:KN q n = SA) (hk:k < n):q k = SA:=List.all_eq_true.1 h k (zA.2 hk)
def RQ (m:MD):Bool:=KN (wP m) (min (UA m.vars).length 9) && (KN (VF m) (min (UA m.rows).length 7) && (decide ((UA m.vars).length <= 8) && (decide ((UA m.rows).length <= 6) && YJ m.cost)))
abbrev c33_k1:CC:=(.seq (.reg [(fA 63 0 1),(lF 64 1 63),(nL 65 64),(bC 66 .leq 65 8),(mV 67 66),(oG 68 67 SA (.faddr 2 (tP 1))),(oG 69 67 SA (.load 1 TA (tP 68))),(oG 70 67 SA (.len TA (tP 69))),(oG 71 67 SA (.bin .leq (tP 70) (.const (.int .i64 (6))))),(pF 72 67 71),(mV 73 72),(oG 74 73 SA (.faddr 1 (tP 1))),(oG 75 73 SA (.load 1 TA (tP 74))),(oG 76 73 SA (.callf (.func 18) [(tP 75)])),(pF 77 73 76),(mV 2 77)]) .ret)
abbrev c33_b1:CC:=(.seq (.seq (.reg [(mV 23 4),(fA 24 2 1),(lF 25 1 24),(nL 26 25),(bB 27 .lss 23 26),(mV 28 27),(gM 29 28 SA 4),(oG 30 28 SA (.bin .leq (tP 29) (.const (.int .i64 (6))))),(pF 31 28 30)]) (.cond (tP 31) .skip (.exit 2))) (.seq (.block 3 (.seq (.reg [(fA 34 2 1),(lF 35 1 34),(mV 36 4),(xA 37 6 35 36),(fA 38 0 37),(lF 39 1 38),(oD 40 (.len SA (tP 39))),(bC 41 .gtr 40 20),(mV 42 41),(oG 43 42 TA (.faddr 2 (tP 1))),(oG 44 42 TA (.load 1 TA (tP 43))),(gM 45 42 TA 4),(oG 46 42 TA (.iaddr 6 QA (tP 44) (tP 45))),(oG 47 42 TA (.faddr 1 (tP 46))),(oG 48 42 TA (.load 1 TA (tP 47))),(oG 49 42 TA (.callf (.func 18) [(tP 48)])),(oG 50 42 TA (.un .not (tP 49))),(pT 51 42 50),(mV 52 51),(oG 53 52 TA (.faddr 2 (tP 1))),(oG 54 52 TA (.load 1 TA (tP 53))),(gM 55 52 TA 4),(oG 56 52 TA (.iaddr 6 QA (tP 54) (tP 55))),(oG 57 52 TA (.faddr 3 (tP 56))),(oG 58 52 TA (.load 3 SA (tP 57))),(oG 59 52 TA (.mkrow 48 3 [(tP 58)])),(oG 60 52 TA (.callf (.func 18) [(tP 59)])),(oG 61 52 TA (.un .not (tP 60))),(pT 62 52 61)]) (.cond (tP 62) (.seq (.reg [(mB 2 TA)]) .ret) .skip))) (.reg [(mV 32 4),(bC 33 .add 32 1),(mV 4 33)])))
abbrev c33_k2:CC:=(.seq (.seq (.reg [(mI 4 0)]) (.block 2 (.loop c33_b1))) c33_k1)
abbrev c33_b2:CC:=(.seq (.seq (.reg [(mV 5 3),(fA 6 0 1),(lF 7 1 6),(nL 8 7),(bB 9 .lss 5 8),(mV 10 9),(gM 11 10 SA 3),(oG 12 10 SA (.bin .leq (tP 11) (.const (.int .i64 (8))))),(pF 13 10 12)]) (.cond (tP 13) .skip (.exit 0))) (.seq (.block 1 (.seq (.reg [(fA 16 0 1),(lF 17 1 16),(mV 18 3),(xA 19 1 17 18),(lF 20 1 19),(oD 21 (.len SA (tP 20))),(bC 22 .gtr 21 20)]) (.cond (tP 22) (.seq (.reg [(mB 2 TA)]) .ret) .skip))) (.reg [(mV 14 3),(bC 15 .add 14 1),(mV 3 15)])))
abbrev c33:CC:=(.seq (.reg [(oD 1 (.box 26 (tP 0))),(mB 2 TA)]) (.seq (.seq (.reg [(mI 3 0)]) (.block 0 (.loop c33_b2))) c33_k2))
theorem cc33:ZA Tryz.prog [] (Tryz.f33.body.getD .skip) = PA c33:=by kernel_rfl
theorem body33:Tryz.f33.body = PA (Tryz.f33.body.getD .skip):=rfl
theorem fewMd_C (m:MD):YA Tryz.prog 33 [aMd m] (.ret (aB (RQ m))):=by
 unfold RQ
 refine WA (rs:=[(RV.tmp 2)]) Tryz.func33 (fun a w=>Tryz.call33 a w) body33 cc33 (by kernel_rfl) ?_
 rw [Tryz.ntmps33]
 simp only [pC,nA,nS]
 repeat (first | (with_reducible first | refine W8 ?_ | refine VA rfl ?_) | ((with_reducible refine X8 fun K hK=>?_);simp (disch:=first | omega | simp only [sB];omega) only [qB,reduceIte,reduceCtorEq,iT,nA,nS,nM,iA,iS,iM,iN,fU,gD];subst hK))
 refine xB (fun (zz:Nat)=>⟨(.junk :: .one (.ptr 0 0 0 0) :: .junk :: aI zz :: K8 (K8 (J8 (.junk :: .junk :: [])))),[⟨0,26,3,[[.c (jB 1 fW m.vars),.c (vr m.cost),.c (jB 6 DD m.rows)]],SA,SA⟩]⟩) (fun (zz:Nat)=>zz <= min (UA m.vars).length 9 /\ KN (wP m) zz = SA) (fun (zz:Nat)=>10 - zz) (0) ?hI1 (TB.headA (fN 1) [TA,SA,TA,SA]) ?hB1
 ·exact ⟨fN _,rfl⟩
 rintro i ⟨hi,hs⟩
 by_cases h9:i = min (UA m.vars).length 9
 case neg =>
  have h1:i < (UA m.vars).length:=by omega
  have h2:(i:Int) <= 8:=by omega
  have hsh:wP m i = decide ((UA m.vars)[i].length <= 20):=by unfold wP;rw [bA,aA h1];rfl
  by_cases h3:(UA m.vars)[i].length <= 20
  ·rw [decide_eq_true h3] at hsh
   repeat (first | (with_reducible first | refine W8 ?_ | refine VA rfl ?_) | ((with_reducible refine X8 fun K hK=>?_);simp (disch:=first | omega | simp only [sB];omega) only [qB,reduceIte,reduceCtorEq,iT,nA,nS,nM,iA,iS,iM,iN,fU,gD,fW];subst hK))
   refine ⟨(i + 1),?hI2,?hM2,TB.headA (fN 1) [TA,SA,TA,SA]⟩
   ·exact ⟨by omega,by rw [VK,hs,hsh];rfl⟩
   ·show 10 - (i + 1) < 10 - i;omega
  ·rw [decide_eq_false h3] at hsh
   rw [aF (show i < min (UA m.vars).length 9 by omega) hsh]
   repeat (first | (with_reducible first | refine W8 ?_ | refine VA rfl ?_) | ((with_reducible refine X8 fun K hK=>?_);simp (disch:=first | omega | simp only [sB];omega) only [qB,reduceIte,reduceCtorEq,iT,nA,nS,nM,iA,iS,iM,iN,fU,gD,fW];subst hK))
   exact ⟨_,rfl,rfl⟩
 rw [<- h9,hs,Bool.true_and]
 have fin:(i < (UA m.vars).length /\ ¬ ((i:Int) <= 8)) \/ ¬ i < (UA m.vars).length:=by omega
 rcases fin with ⟨e1,e2⟩ | e1
 ·skip
  repeat (first | (with_reducible first | refine W8 ?_ | refine VA rfl ?_) | ((with_reducible refine X8 fun K hK=>?_);simp (disch:=first | omega | simp only [sB];omega) only [qB,reduceIte,reduceCtorEq,iT,nA,nS,nM,iA,iS,iM,iN,fU,gD];subst hK))
  refine xB (fun (zz:Nat)=>⟨(.junk :: .one (.ptr 0 0 0 0) :: .junk :: .junk :: aI zz :: K8 (K8 (J8 (.junk :: [])))),[⟨0,26,3,[[.c (jB 1 fW m.vars),.c (vr m.cost),.c (jB 6 DD m.rows)]],SA,SA⟩]⟩) (fun (zz:Nat)=>zz <= min (UA m.rows).length 7 /\ KN (VF m) zz = SA) (fun (zz:Nat)=>10 - zz) (0) ?hI3 (TB.headA (fN 1) [TA,SA,TA,TA,SA]) ?hB3
  ·exact ⟨fN _,rfl⟩
  rintro j ⟨hj,ht⟩
  by_cases h7:j = min (UA m.rows).length 7
  case neg =>
   have h1:j < (UA m.rows).length:=by omega
   have h2:(j:Int) <= 6:=by omega
   have hsh:VF m j = (decide ((UA m.rows)[j].name.length <= 20) && (YJ (UA m.rows)[j].coef && YJ (PA [(UA m.rows)[j].b]))):=by unfold VF;rw [FD h1]
   have hf1:=bO (UA m.rows)[j].coef
   have hf2:=bO (PA [(UA m.rows)[j].b])
   by_cases h3:(UA m.rows)[j].name.length <= 20
   case neg =>
    rw [decide_eq_false h3,Bool.false_and] at hsh
    rw [aF (show j < min (UA m.rows).length 7 by omega) hsh]
    repeat (first | (with_reducible first | refine W8 ?_ | refine VA rfl ?_) | ((with_reducible refine X8 fun K hK=>?_);simp (disch:=first | omega | simp only [sB];omega) only [qB,reduceIte,reduceCtorEq,iT,nA,nS,nM,iA,iS,iM,iN,fU,gD,DD];subst hK))
    exact ⟨_,rfl,rfl⟩
   rw [decide_eq_true h3,Bool.true_and] at hsh
   cases h4:YJ (UA m.rows)[j].coef with
   | false =>
    rw [h4] at hf1 hsh
    rw [aF (show j < min (UA m.rows).length 7 by omega) hsh]
    repeat (first | (with_reducible first | refine W8 ?_ | refine VA rfl ?_) | ((with_reducible refine X8 fun K hK=>?_);simp (disch:=first | omega | simp only [sB];omega) only [qB,reduceIte,reduceCtorEq,iT,nA,nS,nM,iA,iS,iM,iN,fU,gD,DD];subst hK) | refine UJ (hf1) ?_)
    exact ⟨_,rfl,rfl⟩
   | true =>
    rw [h4] at hf1 hsh
    cases h5:YJ (PA [(UA m.rows)[j].b]) with
    | false =>
     rw [h5] at hf2 hsh
     rw [aF (show j < min (UA m.rows).length 7 by omega) hsh]
     repeat (first | (with_reducible first | refine W8 ?_ | refine VA rfl ?_) | ((with_reducible refine X8 fun K hK=>?_);simp (disch:=first | omega | simp only [sB];omega) only [qB,reduceIte,reduceCtorEq,iT,nA,nS,nM,iA,iS,iM,iN,fU,gD,DD];subst hK) | refine UJ (hf1) ?_ | (apply ZE (by simp (disch:=first | omega | (simp only [sB];omega)) only [qB,reduceIte,reduceCtorEq,iT,nA,nS,nM,iA,iS,iM,iN,fU,gD,DD]) (hf2) rfl;(case hcl=>(simp only [oE,St.ev,yB,NE];(repeat (first | exact kB | (apply gB;(first | (refine CB rfl (by decide)) | (refine BB rfl (by decide) ?_;assumption) | rfl))));done));(case hf=>rfl)))
     exact ⟨_,rfl,rfl⟩
    | true =>
     rw [h5] at hf2 hsh
     repeat (first | (with_reducible first | refine W8 ?_ | refine VA rfl ?_) | ((with_reducible refine X8 fun K hK=>?_);simp (disch:=first | omega | simp only [sB];omega) only [qB,reduceIte,reduceCtorEq,iT,nA,nS,nM,iA,iS,iM,iN,fU,gD,DD];subst hK) | refine UJ (hf1) ?_ | (apply ZE (by simp (disch:=first | omega | (simp only [sB];omega)) only [qB,reduceIte,reduceCtorEq,iT,nA,nS,nM,iA,iS,iM,iN,fU,gD,DD]) (hf2) rfl;(case hcl=>(simp only [oE,St.ev,yB,NE];(repeat (first | exact kB | (apply gB;(first | (refine CB rfl (by decide)) | (refine BB rfl (by decide) ?_;assumption) | rfl))));done));(case hf=>rfl)))
     refine ⟨(j + 1),?hI4,?hM4,TB.headA (fN 1) [TA,SA,TA,TA,SA]⟩
     ·exact ⟨by omega,by rw [VK,ht,hsh];rfl⟩
     ·show 10 - (j + 1) < 10 - j;omega
  rw [<- h7,ht,Bool.true_and]
  have hfc:=bO m.cost
  have fin2:(j < (UA m.rows).length /\ ¬ ((j:Int) <= 6)) \/ ¬ j < (UA m.rows).length:=by omega
  by_cases k1:(UA m.vars).length <= 8
  ·exfalso;omega
  ·rw [decide_eq_false k1,Bool.false_and]
   rcases fin2 with ⟨e3,e4⟩ | e4
   ·repeat (first | (with_reducible first | refine W8 ?_ | refine VA rfl ?_) | ((with_reducible refine X8 fun K hK=>?_);simp (disch:=first | omega | simp only [sB];omega) only [qB,reduceIte,reduceCtorEq,iT,nA,nS,nM,iA,iS,iM,iN,fU,gD];subst hK))
    exact ⟨_,rfl,rfl⟩
   ·repeat (first | (with_reducible first | refine W8 ?_ | refine VA rfl ?_) | ((with_reducible refine X8 fun K hK=>?_);simp (disch:=first | omega | simp only [sB];omega) only [qB,reduceIte,reduceCtorEq,iT,nA,nS,nM,iA,iS,iM,iN,fU,gD];subst hK))
    exact ⟨_,rfl,rfl⟩
 ·skip
  repeat (first | (with_reducible first | refine W8 ?_ | refine VA rfl ?_) | ((with_reducible refine X8 fun K hK=>?_);simp (disch:=first | omega | simp only [sB];omega) only [qB,reduceIte,reduceCtorEq,iT,nA,nS,nM,iA,iS,iM,iN,fU,gD];subst hK))
  refine xB (fun (zz:Nat)=>⟨(.junk :: .one (.ptr 0 0 0 0) :: .junk :: .junk :: aI zz :: K8 (K8 (J8 (.junk :: [])))),[⟨0,26,3,[[.c (jB 1 fW m.vars),.c (vr m.cost),.c (jB 6 DD m.rows)]],SA,SA⟩]⟩) (fun (zz:Nat)=>zz <= min (UA m.rows).length 7 /\ KN (VF m) zz = SA) (fun (zz:Nat)=>10 - zz) (0) ?hI5 (TB.headA (fN 1) [TA,SA,TA,TA,SA]) ?hB5
  ·exact ⟨fN _,rfl⟩
  rintro j ⟨hj,ht⟩
  by_cases h7:j = min (UA m.rows).length 7
  case neg =>
   have h1:j < (UA m.rows).length:=by omega
   have h2:(j:Int) <= 6:=by omega
   have hsh:VF m j = (decide ((UA m.rows)[j].name.length <= 20) && (YJ (UA m.rows)[j].coef && YJ (PA [(UA m.rows)[j].b]))):=by unfold VF;rw [FD h1]
   have hf1:=bO (UA m.rows)[j].coef
   have hf2:=bO (PA [(UA m.rows)[j].b])
   by_cases h3:(UA m.rows)[j].name.length <= 20
   case neg =>
    rw [decide_eq_false h3,Bool.false_and] at hsh
    rw [aF (show j < min (UA m.rows).length 7 by omega) hsh]
    repeat (first | (with_reducible first | refine W8 ?_ | refine VA rfl ?_) | ((with_reducible refine X8 fun K hK=>?_);simp (disch:=first | omega | simp only [sB];omega) only [qB,reduceIte,reduceCtorEq,iT,nA,nS,nM,iA,iS,iM,iN,fU,gD,DD];subst hK))
    exact ⟨_,rfl,rfl⟩
   rw [decide_eq_true h3,Bool.true_and] at hsh
   cases h4:YJ (UA m.rows)[j].coef with
   | false =>
    rw [h4] at hf1 hsh
    rw [aF (show j < min (UA m.rows).length 7 by omega) hsh]
    repeat (first | (with_reducible first | refine W8 ?_ | refine VA rfl ?_) | ((with_reducible refine X8 fun K hK=>?_);simp (disch:=first | omega | simp only [sB];omega) only [qB,reduceIte,reduceCtorEq,iT,nA,nS,nM,iA,iS,iM,iN,fU,gD,DD];subst hK) | refine UJ (hf1) ?_)
    exact ⟨_,rfl,rfl⟩
   | true =>
    rw [h4] at hf1 hsh
    cases h5:YJ (PA [(UA m.rows)[j].b]) with
    | false =>
     rw [h5] at hf2 hsh
     rw [aF (show j < min (UA m.rows).length 7 by omega) hsh]
     repeat (first | (with_reducible first | refine W8 ?_ | refine VA rfl ?_) | ((with_reducible refine X8 fun K hK=>?_);simp (disch:=first | omega | simp only [sB];omega) only [qB,reduceIte,reduceCtorEq,iT,nA,nS,nM,iA,iS,iM,iN,fU,gD,DD];subst hK) | refine UJ (hf1) ?_ | (apply ZE (by simp (disch:=first | omega | (simp only [sB];omega)) only [qB,reduceIte,reduceCtorEq,iT,nA,nS,nM,iA,iS,iM,iN,fU,gD,DD]) (hf2) rfl;(case hcl=>(simp only [oE,St.ev,yB,NE];(repeat (first | exact kB | (apply gB;(first | (refine CB rfl (by decide)) | (refine BB rfl (by decide) ?_;assumption) | rfl))));done));(case hf=>rfl)))
     exact ⟨_,rfl,rfl⟩
    | true =>
     rw [h5] at hf2 hsh
     repeat (first | (with_reducible first | refine W8 ?_ | refine VA rfl ?_) | ((with_reducible refine X8 fun K hK=>?_);simp (disch:=first | omega | simp only [sB];omega) only [qB,reduceIte,reduceCtorEq,iT,nA,nS,nM,iA,iS,iM,iN,fU,gD,DD];subst hK) | refine UJ (hf1) ?_ | (apply ZE (by simp (disch:=first | omega | (simp only [sB];omega)) only [qB,reduceIte,reduceCtorEq,iT,nA,nS,nM,iA,iS,iM,iN,fU,gD,DD]) (hf2) rfl;(case hcl=>(simp only [oE,St.ev,yB,NE];(repeat (first | exact kB | (apply gB;(first | (refine CB rfl (by decide)) | (refine BB rfl (by decide) ?_;assumption) | rfl))));done));(case hf=>rfl)))
     refine ⟨(j + 1),?hI6,?hM6,TB.headA (fN 1) [TA,SA,TA,TA,SA]⟩
     ·exact ⟨by omega,by rw [VK,ht,hsh];rfl⟩
     ·show 10 - (j + 1) < 10 - j;omega
  rw [<- h7,ht,Bool.true_and]
  have hfc:=bO m.cost
  have fin2:(j < (UA m.rows).length /\ ¬ ((j:Int) <= 6)) \/ ¬ j < (UA m.rows).length:=by omega
  by_cases k1:(UA m.vars).length <= 8
  ·rw [decide_eq_true k1,Bool.true_and]
   by_cases k2:(UA m.rows).length <= 6
   ·rw [decide_eq_true k2,Bool.true_and]
    have e4:¬ j < (UA m.rows).length:=by omega
    generalize YJ m.cost = z at *
    repeat (first | (with_reducible first | refine W8 ?_ | refine VA rfl ?_) | ((with_reducible refine X8 fun K hK=>?_);simp (disch:=first | omega | simp only [sB];omega) only [qB,reduceIte,reduceCtorEq,iT,nA,nS,nM,iA,iS,iM,iN,fU,gD];subst hK) | refine UJ (hfc) ?_)
    exact ⟨_,rfl,rfl⟩
   ·rw [decide_eq_false k2,Bool.false_and]
    rcases fin2 with ⟨e3,e4⟩ | e4
    ·repeat (first | (with_reducible first | refine W8 ?_ | refine VA rfl ?_) | ((with_reducible refine X8 fun K hK=>?_);simp (disch:=first | omega | simp only [sB];omega) only [qB,reduceIte,reduceCtorEq,iT,nA,nS,nM,iA,iS,iM,iN,fU,gD];subst hK))
     exact ⟨_,rfl,rfl⟩
    ·repeat (first | (with_reducible first | refine W8 ?_ | refine VA rfl ?_) | ((with_reducible refine X8 fun K hK=>?_);simp (disch:=first | omega | simp only [sB];omega) only [qB,reduceIte,reduceCtorEq,iT,nA,nS,nM,iA,iS,iM,iN,fU,gD];subst hK))
     exact ⟨_,rfl,rfl⟩
  ·rw [decide_eq_false k1,Bool.false_and]
   rcases fin2 with ⟨e3,e4⟩ | e4
   ·repeat (first | (with_reducible first | refine W8 ?_ | refine VA rfl ?_) | ((with_reducible refine X8 fun K hK=>?_);simp (disch:=first | omega | simp only [sB];omega) only [qB,reduceIte,reduceCtorEq,iT,nA,nS,nM,iA,iS,iM,iN,fU,gD];subst hK))
    exact ⟨_,rfl,rfl⟩
   ·repeat (first | (with_reducible first | refine W8 ?_ | refine VA rfl ?_) | ((with_reducible refine X8 fun K hK=>?_);simp (disch:=first | omega | simp only [sB];omega) only [qB,reduceIte,reduceCtorEq,iT,nA,nS,nM,iA,iS,iM,iN,fU,gD];subst hK))
    exact ⟨_,rfl,rfl⟩
def sF (l:Option (List ZJ)) (p:List Int):List ZJ:=p.map fun z=>(UA l).getD z.toNat []
def tF (l:VV) (p:List Int):List RR:=p.map fun z=>dF l z.toNat
def inB (n:Nat) (p:List Int):Prop:=∀ z ∈ p,0 <= z /\ z < n
theorem uI {α β:Type} (f:α -> β) {l:List α} {i:Nat} (h:i < l.length):(l.map f).take (i + 1) = (l.map f).take i ++ [f l[i]]:=by
 rw [List.take_succ_eq_append_getElem (by rw [eA];exact h),List.getElem_map]
theorem encB_fW1 (out:List ZJ) (x:ZJ):wB fW out ++ [[Cell.c (.str x)]] = wB fW (out ++ [x]):=by rw [<- XC];rfl
abbrev c37_k1:CC:=(.seq (.reg [(mV 22 5),(mV 4 22)]) .ret)
abbrev c37_b1:CC:=(.seq (.reg [(bB 11 .lss 10 9)]) (.seq (.cond (tP 11) .skip (.exit 0)) (.seq (.block 1 (.seq (.reg [(xA 12 1 8 10),(lF 13 1 12),(mV 7 13)]) (.reg [(mV 14 5),(mV 15 0),(mV 16 7),(xA 17 1 15 16),(lF 18 1 17),(oD 19 (.mkrow 9 1 [(tP 18)])),(oD 20 (.append 9 1 16 (tP 14) (tP 19))),(mV 5 20)]))) (.reg [(bC 21 .add 10 1),(mV 10 21)]))))
abbrev c37:CC:=(.seq (.reg [(oD 4 (.mv nC))]) (.seq (.reg [(oD 5 (.mv nC))]) (.seq (.seq (.reg [(mV 8 1),(nL 9 8),(mI 10 0)]) (.block 0 (.loop c37_b1))) c37_k1)))
theorem cc37:ZA Tryz.prog [] (Tryz.f37.body.getD .skip) = PA c37:=by kernel_rfl
theorem body37:Tryz.f37.body = PA (Tryz.f37.body.getD .skip):=rfl
theorem pickS_C (l:Option (List ZJ)) (p:Option (List Int)) (hp:inB (UA l).length (UA p)) (hl:(UA p).length <= 1000000) (hl2:(UA l).length <= 1000000):YA Tryz.prog 37 [aSs l,QL p] (.ret (aSs (aC (sF l (UA p))))):=by
 refine YA.fresh_rowO (ty:=9) (l:=sF l (UA p)) ?_
 refine WA (rs:=[(RV.tmp 4)]) Tryz.func37 (fun a w=>Tryz.call37 a w) body37 cc37 (by kernel_rfl) ?_
 rw [Tryz.ntmps37]
 simp only [pC,nA,nS]
 repeat (first | (with_reducible first | refine W8 ?_ | refine VA rfl ?_) | ((with_reducible refine X8 fun K hK=>?_);simp (disch:=first | omega | simp only [sB];omega) only [qB,reduceIte,reduceCtorEq,iT,nA,nS,nM,iA,iS,iM,iN,fU];subst hK))
 refine uD.fgt ?_ (TB.openNil (i:=5) rfl 9 1)
 simp only [lA,mA,pA,oA,qA,rA,nA]
 refine xB (fun (zz:Nat × (List ZJ) × Nat × Bool)=>⟨(aSs l :: J4 (.one (.own 0 zz.2.2.1) :: .junk :: .junk :: QL p :: aI (UA p).length :: aI zz.1 :: J8 (J4 ([])))),[⟨zz.2.2.1,9,1,wB fW zz.2.1,SA,zz.2.2.2⟩]⟩) (fun (zz:Nat × (List ZJ) × Nat × Bool)=>zz.1 <= (UA p).length /\ zz.2.1 = (sF l (UA p)).take zz.1 /\ zz.2.2.2 = !zz.2.1.isEmpty) (fun (zz:Nat × (List ZJ) × Nat × Bool)=>(UA p).length - zz.1) (0,[],0,TA) ?hI1 (TB.headN (fN 1) [SA,TA,TA,TA,TA,SA,TA,TA,SA,SA,SA]) ?hB1
 ·dsimp only;exact ⟨fN _,rfl,rfl⟩
 rintro ⟨i,out,u,nn⟩ ⟨hi,ho,hnn⟩
 dsimp only at hi ho hnn
 by_cases him:i = (UA p).length
 ·repeat (first | (with_reducible first | refine W8 ?_ | refine VA rfl ?_) | ((with_reducible refine X8 fun K hK=>?_);simp (disch:=first | omega | simp only [sB];omega) only [qB,reduceIte,reduceCtorEq,iT,nA,nS,nM,iA,iS,iM,iN,fU];subst hK))
  refine ⟨_,rfl,?_⟩
  have ho2:out = sF l (UA p):=by rw [ho,him];exact List.take_of_length_le (by unfold sF;rw [eA];exact EA _)
  rw [<- ho2,<- hnn]
  exact JD.fresh_enc rfl
 ·have hlt:i < (UA p).length:=by omega
  have hz:=hp _ (gA hlt)
  have hts:(sF l (UA p)).take (i + 1) = (sF l (UA p)).take i ++ [(UA l).getD (UA p)[i].toNat []]:=uI _ hlt
  generalize hzz:(UA p)[i] = z at *
  obtain ⟨k,rfl⟩:∃ k:Nat,z = (k:Int):=⟨z.toNat,by omega⟩
  have hk:k < (UA l).length:=by omega
  have hout:out.length = i:=by rw [ho,List.length_take];unfold sF;rw [eA];omega
  rw [Int.toNat_natCast,bA,aA hk,DA] at hts
  repeat (first | (with_reducible first | refine W8 ?_ | refine VA rfl ?_) | ((with_reducible refine X8 fun K hK=>?_);simp (disch:=first | omega | simp only [sB];omega) only [qB,reduceIte,reduceCtorEq,iT,nA,nS,nM,iA,iS,iM,iN,fU,fI,fW,hzz,encB_fW1];subst hK))
  refine ⟨(i + 1,out ++ [(UA l)[k]],u + 1,SA),?hI2,?hM2,TB.headE (fN 1) [SA,TA,TA,TA,TA,SA,TA,TA,SA,SA,SA]⟩
  ·dsimp only;exact ⟨by omega,by rw [hts,ho],by cases out <;> rfl⟩
  ·dsimp only;omega
abbrev c38_k1:CC:=(.seq (.reg [(mV 22 5),(mV 4 22)]) .ret)
abbrev c38_b1:CC:=(.seq (.reg [(bB 11 .lss 10 9)]) (.seq (.cond (tP 11) .skip (.exit 0)) (.seq (.block 1 (.seq (.reg [(xA 12 1 8 10),(lF 13 1 12),(mV 7 13)]) (.reg [(mV 14 5),(mV 15 0),(mV 16 7),(xA 17 3 15 16),(lT 18 3 17),(oD 19 (.mkrow 48 3 [(tP 18)])),(oD 20 (.append 48 3 56 (tP 14) (tP 19))),(mV 5 20)]))) (.reg [(bC 21 .add 10 1),(mV 10 21)]))))
abbrev c38:CC:=(.seq (.reg [(oD 4 (.mv nC))]) (.seq (.reg [(oD 5 (.mv nC))]) (.seq (.seq (.reg [(mV 8 1),(nL 9 8),(mI 10 0)]) (.block 0 (.loop c38_b1))) c38_k1)))
theorem cc38:ZA Tryz.prog [] (Tryz.f38.body.getD .skip) = PA c38:=by kernel_rfl
theorem body38:Tryz.f38.body = PA (Tryz.f38.body.getD .skip):=rfl
theorem pickQ_C (l:VV) (p:Option (List Int)) (hp:inB (UA l).length (UA p)) (hl:(UA p).length <= 1000000) (hl2:(UA l).length <= 1000000):YA Tryz.prog 38 [aV l,QL p] (.ret (aV (aC (tF l (UA p))))):=by
 refine YA.fresh_rowO (ty:=48) (l:=tF l (UA p)) ?_
 refine WA (rs:=[(RV.tmp 4)]) Tryz.func38 (fun a w=>Tryz.call38 a w) body38 cc38 (by kernel_rfl) ?_
 rw [Tryz.ntmps38]
 simp only [pC,nA,nS]
 repeat (first | (with_reducible first | refine W8 ?_ | refine VA rfl ?_) | ((with_reducible refine X8 fun K hK=>?_);simp (disch:=first | omega | simp only [sB];omega) only [qB,reduceIte,reduceCtorEq,iT,nA,nS,nM,iA,iS,iM,iN,fU];subst hK))
 refine uD.fgt ?_ (TB.openNil (i:=5) rfl 48 3)
 simp only [lA,mA,pA,oA,qA,rA,nA]
 refine xB (fun (zz:Nat × (List RR) × Nat × Bool)=>⟨(aV l :: J4 (.one (.own 0 zz.2.2.1) :: .junk :: .junk :: QL p :: aI (UA p).length :: aI zz.1 :: J8 (J4 ([])))),[⟨zz.2.2.1,48,3,wB fR zz.2.1,SA,zz.2.2.2⟩]⟩) (fun (zz:Nat × (List RR) × Nat × Bool)=>zz.1 <= (UA p).length /\ zz.2.1 = (tF l (UA p)).take zz.1 /\ zz.2.2.2 = !zz.2.1.isEmpty) (fun (zz:Nat × (List RR) × Nat × Bool)=>(UA p).length - zz.1) (0,[],0,TA) ?hI3 (TB.headN (fN 1) [SA,TA,TA,TA,TA,SA,TA,TA,SA,SA,SA]) ?hB3
 ·dsimp only;exact ⟨fN _,rfl,rfl⟩
 rintro ⟨i,out,u,nn⟩ ⟨hi,ho,hnn⟩
 dsimp only at hi ho hnn
 by_cases him:i = (UA p).length
 ·repeat (first | (with_reducible first | refine W8 ?_ | refine VA rfl ?_) | ((with_reducible refine X8 fun K hK=>?_);simp (disch:=first | omega | simp only [sB];omega) only [qB,reduceIte,reduceCtorEq,iT,nA,nS,nM,iA,iS,iM,iN,fU];subst hK))
  refine ⟨_,rfl,?_⟩
  have ho2:out = tF l (UA p):=by rw [ho,him];exact List.take_of_length_le (by unfold tF;rw [eA];exact EA _)
  rw [<- ho2,<- hnn]
  exact JD.fresh_enc rfl
 ·have hlt:i < (UA p).length:=by omega
  have hz:=hp _ (gA hlt)
  have hts:(tF l (UA p)).take (i + 1) = (tF l (UA p)).take i ++ [dF l (UA p)[i].toNat]:=uI _ hlt
  generalize hzz:(UA p)[i] = z at *
  obtain ⟨k,rfl⟩:∃ k:Nat,z = (k:Int):=⟨z.toNat,by omega⟩
  have hk:k < (UA l).length:=by omega
  have hout:out.length = i:=by rw [ho,List.length_take];unfold tF;rw [eA];omega
  rw [Int.toNat_natCast,fE hk] at hts
  repeat (first | (with_reducible first | refine W8 ?_ | refine VA rfl ?_) | ((with_reducible refine X8 fun K hK=>?_);simp (disch:=first | omega | simp only [sB];omega) only [qB,reduceIte,reduceCtorEq,iT,nA,nS,nM,iA,iS,iM,iN,fU,fI,fR,hzz,YB];subst hK))
  refine ⟨(i + 1,out ++ [(UA l)[k]],u + 1,SA),?hI4,?hM4,TB.head (fN 1) [SA,TA,TA,TA,TA,SA,TA,TA,SA,SA,SA] ?hT4 ?hH4⟩
  case hT4 | hH4=>first | (simp (disch:=omega) only [pD,IB,lB,XA,clean1,uB,reduceIte,iS,iA,iN,kA,KA,LA,YB];done) | rfl
  ·dsimp only;exact ⟨by omega,by rw [hts,ho],by cases out <;> rfl⟩
  ·dsimp only;omega
def atR (l:VV) (z:Int):RR:=if 0 <= z /\ z < (UA l).length then dF l z.toNat else eB 0
def atQ (l:VV) (p:List Int):List RR:=p.map (atR l)
abbrev c13_k1:CC:=(.seq (.reg [(mV 34 5),(mV 4 34)]) .ret)
abbrev c13_b1:CC:=(.seq (.reg [(bB 11 .lss 10 9)]) (.seq (.cond (tP 11) .skip (.exit 0)) (.seq (.block 1 (.seq (.reg [(xA 12 1 8 10),(lF 13 1 12),(mV 7 13)]) (.seq (.reg [(mV 14 7),(bC 15 .geq 14 0),(mV 16 15),(gM 17 16 SA 7),(gM 18 16 SA 0),(oG 19 16 SA (.len TA (tP 18))),(oG 20 16 SA (.bin .lss (tP 17) (tP 19))),(pF 21 16 20)]) (.cond (tP 21) (.reg [(mV 22 5),(mV 23 0),(mV 24 7),(xA 25 3 23 24),(lT 26 3 25),(oD 27 (.mkrow 48 3 [(tP 26)])),(oD 28 (.append 48 3 56 (tP 22) (tP 27))),(mV 5 28)]) (.reg [(mV 29 5),(oD 30 (.callf (.func 19) [(.const (.int .i64 (0)))])),(oD 31 (.mkrow 48 3 [(tP 30)])),(oD 32 (.append 48 3 56 (tP 29) (tP 31))),(mV 5 32)]))))) (.reg [(bC 33 .add 10 1),(mV 10 33)]))))
abbrev c13:CC:=(.seq (.reg [(oD 4 (.mv nC))]) (.seq (.reg [(oD 5 (.mv nC))]) (.seq (.seq (.reg [(mV 8 1),(nL 9 8),(mI 10 0)]) (.block 0 (.loop c13_b1))) c13_k1)))
theorem cc13:ZA Tryz.prog [] (Tryz.f13.body.getD .skip) = PA c13:=by kernel_rfl
theorem body13:Tryz.f13.body = PA (Tryz.f13.body.getD .skip):=rfl
theorem at14_C (l:VV) (p:Option (List Int)) (hl:(UA p).length <= 1000000) (hl2:(UA l).length <= 1000000):YA Tryz.prog 13 [aV l,QL p] (.ret (aV (aC (atQ l (UA p))))):=by
 have hi0:=KE 0 (by omega) (by omega)
 rw [show ((0:Int):Rat) = 0 from rfl] at hi0
 refine YA.fresh_rowO (ty:=48) (l:=atQ l (UA p)) ?_
 refine WA (rs:=[(RV.tmp 4)]) Tryz.func13 (fun a w=>Tryz.call13 a w) body13 cc13 (by kernel_rfl) ?_
 rw [Tryz.ntmps13]
 simp only [pC,nA,nS]
 repeat (first | (with_reducible first | refine W8 ?_ | refine VA rfl ?_) | ((with_reducible refine X8 fun K hK=>?_);simp (disch:=first | omega | simp only [sB];omega) only [qB,reduceIte,reduceCtorEq,iT,nA,nS,nM,iA,iS,iM,iN,fU];subst hK))
 refine uD.fgt ?_ (TB.openNil (i:=5) rfl 48 3)
 simp only [lA,mA,pA,oA,qA,rA,nA]
 refine xB (fun (zz:Nat × (List RR) × Nat × Bool)=>⟨(aV l :: QL p :: .junk :: .junk :: .junk :: .one (.own 0 zz.2.2.1) :: .junk :: .junk :: QL p :: aI (UA p).length :: aI zz.1 :: L8 (J8 ([]))),[⟨zz.2.2.1,48,3,wB fR zz.2.1,SA,zz.2.2.2⟩]⟩) (fun (zz:Nat × (List RR) × Nat × Bool)=>zz.1 <= (UA p).length /\ zz.2.1 = (atQ l (UA p)).take zz.1 /\ zz.2.2.2 = !zz.2.1.isEmpty) (fun (zz:Nat × (List RR) × Nat × Bool)=>(UA p).length - zz.1) (0,[],0,TA) ?hI5 (TB.headN (fN 1) [SA,SA,TA,TA,TA,SA,TA,TA,SA,SA,SA]) ?hB5
 ·dsimp only;exact ⟨fN _,rfl,rfl⟩
 rintro ⟨i,out,u,nn⟩ ⟨hi,ho,hnn⟩
 dsimp only at hi ho hnn
 by_cases him:i = (UA p).length
 ·repeat (first | (with_reducible first | refine W8 ?_ | refine VA rfl ?_) | ((with_reducible refine X8 fun K hK=>?_);simp (disch:=first | omega | simp only [sB];omega) only [qB,reduceIte,reduceCtorEq,iT,nA,nS,nM,iA,iS,iM,iN,fU];subst hK))
  refine ⟨_,rfl,?_⟩
  have ho2:out = atQ l (UA p):=by rw [ho,him];exact List.take_of_length_le (by unfold atQ;rw [eA];exact EA _)
  rw [<- ho2,<- hnn]
  exact JD.fresh_enc rfl
 ·have hlt:i < (UA p).length:=by omega
  have hts:(atQ l (UA p)).take (i + 1) = (atQ l (UA p)).take i ++ [atR l (UA p)[i]]:=uI _ hlt
  have hout:out.length = i:=by rw [ho,List.length_take];unfold atQ;rw [eA];omega
  generalize hzz:(UA p)[i] = z at *
  unfold atR at hts
  by_cases h0:0 <= z
  ·by_cases h1:z < (UA l).length
   ·rw [if_pos ⟨h0,h1⟩] at hts
    obtain ⟨k,rfl⟩:∃ k:Nat,z = (k:Int):=⟨z.toNat,by omega⟩
    have hk:k < (UA l).length:=by omega
    rw [Int.toNat_natCast,fE hk] at hts
    repeat (first | (with_reducible first | refine W8 ?_ | refine VA rfl ?_) | ((with_reducible refine X8 fun K hK=>?_);simp (disch:=first | omega | simp only [sB];omega) only [qB,reduceIte,reduceCtorEq,iT,nA,nS,nM,iA,iS,iM,iN,fU,fI,fR,hzz,YB];subst hK))
    refine ⟨(i + 1,out ++ [(UA l)[k]],u + 1,SA),?hI6,?hM6,TB.head (fN 1) [SA,SA,TA,TA,TA,SA,TA,TA,SA,SA,SA] ?hT6 ?hH6⟩
    case hT6 | hH6=>first | (simp (disch:=omega) only [pD,IB,lB,XA,clean1,uB,reduceIte,iS,iA,iN,kA,KA,LA,YB];done) | rfl
    ·dsimp only;exact ⟨by omega,by rw [hts,ho],by cases out <;> rfl⟩
    ·dsimp only;omega
   ·rw [if_neg (fun h=>h1 h.2)] at hts
    repeat (first | (with_reducible first | refine W8 ?_ | refine VA rfl ?_) | ((with_reducible refine X8 fun K hK=>?_);simp (disch:=first | omega | simp only [sB];omega) only [qB,reduceIte,reduceCtorEq,iT,nA,nS,nM,iA,iS,iM,iN,fU,fI,fR,hzz,YB];subst hK) | refine KB (hi0) rfl rfl rfl ?_)
    refine ⟨(i + 1,out ++ [eB 0],u + 1,SA),?hI7,?hM7,TB.head (fN 1) [SA,SA,TA,TA,TA,SA,TA,TA,SA,SA,SA] ?hT7 ?hH7⟩
    case hT7 | hH7=>first | (simp (disch:=omega) only [pD,IB,lB,XA,clean1,uB,reduceIte,iS,iA,iN,kA,KA,LA,YB];done) | rfl
    ·dsimp only;exact ⟨by omega,by rw [hts,ho],by cases out <;> rfl⟩
    ·dsimp only;omega
  ·rw [if_neg (fun h=>h0 h.1)] at hts
   repeat (first | (with_reducible first | refine W8 ?_ | refine VA rfl ?_) | ((with_reducible refine X8 fun K hK=>?_);simp (disch:=first | omega | simp only [sB];omega) only [qB,reduceIte,reduceCtorEq,iT,nA,nS,nM,iA,iS,iM,iN,fU,fI,fR,hzz,YB];subst hK) | refine KB (hi0) rfl rfl rfl ?_)
   refine ⟨(i + 1,out ++ [eB 0],u + 1,SA),?hI8,?hM8,TB.head (fN 1) [SA,SA,TA,TA,TA,SA,TA,TA,SA,SA,SA] ?hT8 ?hH8⟩
   case hT8 | hH8=>first | (simp (disch:=omega) only [pD,IB,lB,XA,clean1,uB,reduceIte,iS,iA,iN,kA,KA,LA,YB];done) | rfl
   ·dsimp only;exact ⟨by omega,by rw [hts,ho],by cases out <;> rfl⟩
   ·dsimp only;omega
def dN (n:NB) (j:Nat):Bool:=decide (CF n j <= 10)
def few14 (m:MD) (n:NB):Bool:=KN (dN n) (min (UA n).length 11) && (decide ((UA n).length <= 10) && RQ m)
abbrev c9_k1:CC:=(.seq (.reg [(fA 24 0 3),(lF 25 1 24),(nL 26 25),(bC 27 .leq 26 10),(mV 28 27),(oG 29 28 SA (.load 3 SA (tP 2))),(oG 30 28 SA (.callf (.func 33) [(tP 29)])),(pF 31 28 30),(mV 4 31)]) .ret)
abbrev c9_b1:CC:=(.seq (.seq (.reg [(mV 6 5),(fA 7 0 3),(lF 8 1 7),(nL 9 8),(bB 10 .lss 6 9),(mV 11 10),(gM 12 11 SA 5),(oG 13 11 SA (.bin .leq (tP 12) (.const (.int .i64 (10))))),(pF 14 11 13)]) (.cond (tP 14) .skip (.exit 0))) (.seq (.block 1 (.seq (.reg [(fA 17 0 3),(lF 18 1 17),(mV 19 5),(xA 20 1 18 19),(lF 21 1 20),(nL 22 21),(bC 23 .gtr 22 10)]) (.cond (tP 23) (.seq (.reg [(mB 4 TA)]) .ret) .skip))) (.reg [(mV 15 5),(bC 16 .add 15 1),(mV 5 16)])))
abbrev c9:CC:=(.seq (.reg [(oD 2 (.box 26 (tP 0))),(oD 3 (.box 29 (tP 1))),(mB 4 TA)]) (.seq (.seq (.reg [(mI 5 0)]) (.block 0 (.loop c9_b1))) c9_k1))
theorem cc9:ZA Tryz.prog [] (Tryz.f9.body.getD .skip) = PA c9:=by kernel_rfl
theorem body9:Tryz.f9.body = PA (Tryz.f9.body.getD .skip):=rfl
theorem few14_C (m:MD) (n:NB) (hl:(UA n).length <= 9223372036854775807):YA Tryz.prog 9 [aMd m,aNo n] (.ret (aB (few14 m n))):=by
 have hfm:=fewMd_C m
 unfold few14
 refine WA (rs:=[(RV.tmp 4)]) Tryz.func9 (fun a w=>Tryz.call9 a w) body9 cc9 (by kernel_rfl) ?_
 rw [Tryz.ntmps9]
 simp only [pC,nA,nS]
 repeat (first | (with_reducible first | refine W8 ?_ | refine VA rfl ?_) | ((with_reducible refine X8 fun K hK=>?_);simp (disch:=first | omega | simp only [sB];omega) only [qB,reduceIte,reduceCtorEq,iT,nA,nS,nM,iA,iS,iM,iN,fU];subst hK))
 refine xB (fun (zz:Nat)=>⟨(.junk :: .junk :: .one (.ptr 0 0 0 0) :: .one (.ptr 1 0 0 0) :: .junk :: aI zz :: L8 (J8 (.junk :: .junk :: []))),[⟨0,26,3,[[.c (jB 1 fW m.vars),.c (vr m.cost),.c (jB 6 DD m.rows)]],SA,SA⟩,⟨0,29,1,[[.c (jB 1 fIs n)]],SA,SA⟩]⟩) (fun (zz:Nat)=>zz <= min (UA n).length 11 /\ KN (dN n) zz = SA) (fun (zz:Nat)=>12 - zz) (0) ?hI1 (TB.headA (fN 2) [TA,TA,SA,SA,TA,SA]) ?hB1
 ·exact ⟨fN _,rfl⟩
 rintro i ⟨hi,hs⟩
 by_cases h9:i = min (UA n).length 11
 case neg =>
  have h1:i < (UA n).length:=by omega
  have h2:(i:Int) <= 10:=by omega
  have hsh:dN n i = decide ((UA (UA n)[i]).length <= 10):=by unfold dN CF;rw [qI h1]
  by_cases h3:(UA (UA n)[i]).length <= 10
  ·rw [decide_eq_true h3] at hsh
   repeat (first | (with_reducible first | refine W8 ?_ | refine VA rfl ?_) | ((with_reducible refine X8 fun K hK=>?_);simp (disch:=first | omega | simp only [sB];omega) only [qB,reduceIte,reduceCtorEq,iT,nA,nS,nM,iA,iS,iM,iN,fU,fIs];subst hK))
   refine ⟨(i + 1),?hI2,?hM2,TB.headA (fN 2) [TA,TA,SA,SA,TA,SA]⟩
   ·exact ⟨by omega,by rw [VK,hs,hsh];rfl⟩
   ·show 12 - (i + 1) < 12 - i;omega
  ·rw [decide_eq_false h3] at hsh
   rw [aF (show i < min (UA n).length 11 by omega) hsh]
   repeat (first | (with_reducible first | refine W8 ?_ | refine VA rfl ?_) | ((with_reducible refine X8 fun K hK=>?_);simp (disch:=first | omega | simp only [sB];omega) only [qB,reduceIte,reduceCtorEq,iT,nA,nS,nM,iA,iS,iM,iN,fU,fIs];subst hK))
   exact ⟨_,rfl,rfl⟩
 rw [<- h9,hs,Bool.true_and]
 have fin:(i < (UA n).length /\ ¬ ((i:Int) <= 10) /\ ¬ (UA n).length <= 10) \/ (¬ i < (UA n).length /\ (UA n).length <= 10) \/ (¬ i < (UA n).length /\ ¬ (UA n).length <= 10):=by omega
 rcases fin with ⟨e1,e2,e3⟩ | ⟨e1,e3⟩ | ⟨e1,e3⟩
 ·rw [decide_eq_false e3]
  repeat (first | (with_reducible first | refine W8 ?_ | refine VA rfl ?_) | ((with_reducible refine X8 fun K hK=>?_);simp (disch:=first | omega | simp only [sB];omega) only [qB,reduceIte,reduceCtorEq,iT,nA,nS,nM,iA,iS,iM,iN,fU];subst hK))
  exact ⟨_,rfl,rfl⟩
 ·rw [decide_eq_true e3]
  generalize RQ m = k at *
  repeat (first | (with_reducible first | refine W8 ?_ | refine VA rfl ?_) | ((with_reducible refine X8 fun K hK=>?_);simp (disch:=first | omega | simp only [sB];omega) only [qB,reduceIte,reduceCtorEq,iT,nA,nS,nM,iA,iS,iM,iN,fU];subst hK) | refine KB (hfm) rfl rfl rfl ?_)
  exact ⟨_,rfl,rfl⟩
 ·rw [decide_eq_false e3]
  repeat (first | (with_reducible first | refine W8 ?_ | refine VA rfl ?_) | ((with_reducible refine X8 fun K hK=>?_);simp (disch:=first | omega | simp only [sB];omega) only [qB,reduceIte,reduceCtorEq,iT,nA,nS,nM,iA,iS,iM,iN,fU];subst hK))
  exact ⟨_,rfl,rfl⟩
theorem few14_fits {m:MD} {n:NB} (h:few14 m n = SA) (hi:∀ s ∈ UA n,∀ z ∈ UA s,-9223372036854775808 <= z /\ z <= 9223372036854775807):FitsN n /\ (UA n).length <= 10 /\ (∀ j,CF n j <= 10) /\ RQ m = SA:=by
 unfold few14 at h
 simp only [JA,decide_eq_true_eq] at h
 obtain ⟨h1,h2,h3⟩:=h
 have hs:∀ j,CF n j <= 10:=fun j=>by
  by_cases hj:j < (UA n).length
  ·have:=List.all_eq_true.1 (show (List.range (min (UA n).length 11)).all (dN n) = SA from h1) j (zA.2 (Nat.lt_min.2 ⟨hj,by omega⟩))
   unfold dN at this
   simpa using this
  ·unfold CF
   rw [blkN_out (by omega)]
   exact fN _
 refine ⟨⟨by omega,fun s hm=>?_,hi⟩,h2,hs,h3⟩
 obtain ⟨j,hj,rfl⟩:=List.getElem_of_mem hm
 have:=hs j
 unfold CF at this
 rw [qI hj] at this
 omega
abbrev aBk (p:PB) (vs:Option (List Int)):AV:=.agg [.c (jB 1 fM p.A),.c (vr p.B),.c (vr p.C),.c (jB 1 fI vs)]
abbrev aOf (kd:Int) (X:VV) (c:RR):AV:=.agg [.c (.val (.int .i64 kd)),.c (vr X),.c (.val (.bool c.minus)),.c (nr c.size),.c (nr c.den)]
def shIn (vs:List Int) (row:VV) (i:Nat):Bool:=decide (i < vs.length) && (decide (0 <= vs.getD i 0) && decide (vs.getD i 0 < (UA row).length))
def wL (vs:List Int) (row X:VV):Nat -> Rat
 | 0=>0
 | i + 1=>if shIn vs row i then wL vs row X i + jE row (vs.getD i 0).toNat * jE X i else wL vs row X i
theorem mS {vs:List Int} {row X:VV} {n L:Nat} (hr:vC row n L) (hX:vC X n L) (hL:1 <= L):∀ i,SB (wL vs row X i) (i * (2 * L + 1) + 1)
 | 0=>by rw [Nat.zero_mul];exact HC _ (by omega)
 | i + 1=>by
  have ih:=mS (vs:=vs) hr hX hL i
  unfold wL
  have hm:(i + 1) * (2 * L + 1) = i * (2 * L + 1) + (2 * L + 1):=Nat.succ_mul _ _
  split
  ·refine (ih.add1 (((hr.at _).val hL).mul ((hX.at i).val hL))).mono ?_
   omega
  ·exact ih.mono (by omega)
abbrev c23_k1:CC:=(.seq (.reg [(lT 55 3 7),(sT 3 6 55)]) .ret)
abbrev c23_b1:CC:=(.seq (.reg [(bB 15 .lss 14 13)]) (.seq (.cond (tP 15) .skip (.exit 0)) (.seq (.block 1 (.seq (.reg [(mV 16 14),(xA 17 3 12 14),(lT 18 3 17),(oD 9 (.new 48 [(.bool TA),(.slice QA 0 0),(.slice QA 0 0)])),(mV 8 16),(sT 3 9 18)]) (.seq (.reg [(mV 19 8),(fA 20 3 3),(lF 21 1 20),(nL 22 21),(bB 23 .lss 19 22),(mV 24 23),(oG 25 24 SA (.faddr 3 (tP 3))),(oG 26 24 SA (.load 1 TA (tP 25))),(gM 27 24 SA 8),(oG 28 24 SA (.iaddr 1 QA (tP 26) (tP 27))),(oG 29 24 SA (.load 1 TA (tP 28))),(oG 30 24 SA (.bin .geq (tP 29) (.const (.int .i64 (0))))),(pF 31 24 30),(mV 32 31),(oG 33 32 SA (.faddr 3 (tP 3))),(oG 34 32 SA (.load 1 TA (tP 33))),(gM 35 32 SA 8),(oG 36 32 SA (.iaddr 1 QA (tP 34) (tP 35))),(oG 37 32 SA (.load 1 TA (tP 36))),(gM 38 32 SA 1),(oG 39 32 SA (.len TA (tP 38))),(oG 40 32 SA (.bin .lss (tP 37) (tP 39))),(pF 41 32 40)]) (.cond (tP 41) (.reg [(lT 42 3 7),(mV 43 1),(fA 44 3 3),(lF 45 1 44),(mV 46 8),(xA 47 1 45 46),(lF 48 1 47),(xA 49 3 43 48),(lT 50 3 49),(lT 51 3 9),(oD 52 (.callf (.func 21) [(tP 50),(tP 51)])),(oD 53 (.callf (.func 20) [(tP 42),(tP 52)])),(sT 3 7 53)]) .skip)))) (.reg [(bC 54 .add 14 1),(mV 14 54)]))))
abbrev c23:CC:=(.seq (.reg [(oD 3 (.box 37 (tP 0))),(oD 5 (.box 56 (tP 2))),(oD 6 (.new 48 [(.bool TA),(.slice QA 0 0),(.slice QA 0 0)]))]) (.seq (.reg [(oD 10 (.callf (.func 19) [(.const (.int .i64 (0)))])),(oD 7 (.new 48 [(.bool TA),(.slice QA 0 0),(.slice QA 0 0)])),(sT 3 7 10)]) (.seq (.seq (.reg [(fA 11 1 5),(lF 12 1 11),(nL 13 12),(mI 14 0)]) (.block 0 (.loop c23_b1))) c23_k1)))
theorem cc23:ZA Tryz.prog [] (Tryz.f23.body.getD .skip) = PA c23:=by kernel_rfl
theorem body23:Tryz.f23.body = PA (Tryz.f23.body.getD .skip):=rfl
theorem share_C (p:PB) (vs:Option (List Int)) (row:VV) (kd:Int) (X:VV) (c:RR) (n L:Nat) (hr:vC row n L) (hX:vC X n L) (hn:n <= 1000) (hL:1 <= L) (hL2:L <= 2000) (hvl:(UA vs).length <= 1000000) :
  YA Tryz.prog 23 [aBk p vs,aV row,aOf kd X c] (.ret (aR (eB (wL (UA vs) row X (UA X).length)))):=by
 have hi0:=KE 0 (by omega) (by omega)
 rw [show ((0:Int):Rat) = 0 from rfl] at hi0
 have hr1:=hr.1
 have hX1:=hX.1
 refine WA (rs:=[(RV.cell 6 3 SA)]) Tryz.func23 (fun a w=>Tryz.call23 a w) body23 cc23 (by kernel_rfl) ?_
 rw [Tryz.ntmps23]
 simp only [pC,nA,nS]
 repeat (first | (with_reducible first | refine W8 ?_ | refine VA rfl ?_) | ((with_reducible refine X8 fun K hK=>?_);simp (disch:=first | omega | simp only [sB];omega) only [qB,reduceIte,reduceCtorEq,iT,nA,nS,nM,iA,iS,iM,iN,fU];subst hK) | refine KB (hi0) rfl rfl rfl ?_)
 refine xB (fun (zz:Nat)=>⟨(.junk :: aV row :: .junk :: .one (.ptr 0 0 0 0) :: .junk :: .one (.ptr 1 0 0 0) :: .one (.ptr 2 0 0 0) :: .one (.ptr 3 0 0 0) :: J4 (aV X :: aI (UA X).length :: aI zz :: K8 (J8 (.junk :: [])))),[⟨0,37,4,[[.c (jB 1 fM p.A),.c (vr p.B),.c (vr p.C),.c (jB 1 fI vs)]],SA,SA⟩,⟨0,56,5,[[.c (.val (.int .i64 kd)),.c (vr X),.c (.val (.bool c.minus)),.c (nr c.size),.c (nr c.den)]],SA,SA⟩,⟨0,48,3,[[.c (.val (.bool TA)),.c (.val (.slice QA 0 0)),.c (.val (.slice QA 0 0))]],SA,SA⟩,⟨0,48,3,[(fR (eB (wL (UA vs) row X zz))).map .c],SA,SA⟩]⟩) (fun (zz:Nat)=>zz <= (UA X).length) (fun (zz:Nat)=>(UA X).length - zz) (0) ?hI3 (TB.head (fN 4) [TA,SA,TA,SA,TA,SA,SA,SA,TA,TA,TA,TA,SA,SA,SA] ?hT3 ?hH3) ?hB3
 case hT3 | hH3=>first | (simp (disch:=omega) only [pD,IB,lB,XA,clean1,uB,reduceIte,iS,iA,iN,fR];done) | rfl
 ·exact fN _
 rintro i hi
 by_cases him:i = (UA X).length
 ·rw [him]
  repeat (first | (with_reducible first | refine W8 ?_ | refine VA rfl ?_) | ((with_reducible refine X8 fun K hK=>?_);simp (disch:=first | omega | simp only [sB];omega) only [qB,reduceIte,reduceCtorEq,iT,nA,nS,nM,iA,iS,iM,iN,fU,fR];subst hK))
  exact ⟨_,rfl,rfl⟩
 have hlt:i < (UA X).length:=by omega
 have hsf:=mS (vs:=UA vs) hr hX hL i
 have hnL:i * (2 * L + 1) <= 1000 * 4001:=Nat.mul_le_mul (by omega) (by omega)
 have hss:wL (UA vs) row X (i + 1) = if shIn (UA vs) row i then wL (UA vs) row X i + jE row ((UA vs).getD i 0).toNat * jE X i else wL (UA vs) row X i:=rfl
 have hxr:jE X i = (UA X)[i].val:=by unfold jE;rw [fE hlt]
 have hXi:=hX.2 _ (gA hlt)
 by_cases c1:i < (UA vs).length
 ·have hg:(UA vs).getD i 0 = (UA vs)[i]:=by rw [bA,aA c1];rfl
  generalize hzz:(UA vs)[i] = z at *
  have hshin:shIn (UA vs) row i = (decide (0 <= z) && decide (z < (UA row).length)):=by unfold shIn;rw [decide_eq_true c1,hg];rfl
  rw [hshin,hg] at hss
  by_cases c2:0 <= z
  ·by_cases c3:z < (UA row).length
   ·rw [decide_eq_true c2,decide_eq_true c3,if_pos (show (SA && SA) = SA from rfl)] at hss
    obtain ⟨k,rfl⟩:∃ k:Nat,z = (k:Int):=⟨z.toNat,by omega⟩
    have hk:k < (UA row).length:=by omega
    have hqk:jE row k = (UA row)[k].val:=by unfold jE;rw [fE hk]
    rw [Int.toNat_natCast,hqk,hxr] at hss
    have hrk:=hr.2 _ (gA hk)
    have hmul:=kN (UA row)[k] (UA X)[i] (hrk.mono (by omega)) (hXi.mono (by omega))
    have hadd:=radd_C (eB (wL (UA vs) row X i)) (eB ((UA row)[k].val * (UA X)[i].val)) ((QB hsf).mono (by omega)) ((QB ((hrk.val hL).mul (hXi.val hL))).mono (by omega))
    rw [rawQ_val,rawQ_val,<- hss] at hadd
    repeat (first | (with_reducible first | refine W8 ?_ | refine VA rfl ?_) | ((with_reducible refine X8 fun K hK=>?_);simp (disch:=first | omega | simp only [sB];omega) only [qB,reduceIte,reduceCtorEq,iT,nA,nS,nM,iA,iS,iM,iN,fU,fR,fI,hzz];subst hK) | refine KB (hmul) rfl rfl rfl ?_ | refine KB (hadd) rfl rfl rfl ?_)
    refine ⟨(i + 1),?hI4,?hM4,TB.head (fN 4) [TA,SA,TA,SA,TA,SA,SA,SA,TA,TA,TA,TA,SA,SA,SA] ?hT4 ?hH4⟩
    case hT4 | hH4=>first | (simp (disch:=omega) only [pD,IB,lB,XA,clean1,uB,reduceIte,iS,iA,iN,fR];done) | rfl
    ·omega
    ·omega
   ·rw [decide_eq_false c3,Bool.and_false,if_neg (by simp)] at hss
    repeat (first | (with_reducible first | refine W8 ?_ | refine VA rfl ?_) | ((with_reducible refine X8 fun K hK=>?_);simp (disch:=first | omega | simp only [sB];omega) only [qB,reduceIte,reduceCtorEq,iT,nA,nS,nM,iA,iS,iM,iN,fU,fR,fI,hzz];subst hK))
    refine ⟨(i + 1),?hI5,?hM5,TB.head (fN 4) [TA,SA,TA,SA,TA,SA,SA,SA,TA,TA,TA,TA,SA,SA,SA] ?hT5 ?hH5⟩
    case hT5 | hH5=>first | (simp (disch:=omega) only [pD,IB,lB,XA,clean1,uB,reduceIte,iS,iA,iN,hss,fR];done) | rfl
    ·omega
    ·omega
  ·rw [decide_eq_false c2,Bool.false_and,if_neg (by simp)] at hss
   repeat (first | (with_reducible first | refine W8 ?_ | refine VA rfl ?_) | ((with_reducible refine X8 fun K hK=>?_);simp (disch:=first | omega | simp only [sB];omega) only [qB,reduceIte,reduceCtorEq,iT,nA,nS,nM,iA,iS,iM,iN,fU,fR,fI,hzz];subst hK))
   refine ⟨(i + 1),?hI6,?hM6,TB.head (fN 4) [TA,SA,TA,SA,TA,SA,SA,SA,TA,TA,TA,TA,SA,SA,SA] ?hT6 ?hH6⟩
   case hT6 | hH6=>first | (simp (disch:=omega) only [pD,IB,lB,XA,clean1,uB,reduceIte,iS,iA,iN,hss,fR];done) | rfl
   ·omega
   ·omega
 ·have hshin:shIn (UA vs) row i = TA:=by unfold shIn;rw [decide_eq_false c1];rfl
  rw [hshin,if_neg (by simp)] at hss
  repeat (first | (with_reducible first | refine W8 ?_ | refine VA rfl ?_) | ((with_reducible refine X8 fun K hK=>?_);simp (disch:=first | omega | simp only [sB];omega) only [qB,reduceIte,reduceCtorEq,iT,nA,nS,nM,iA,iS,iM,iN,fU,fR];subst hK))
  refine ⟨(i + 1),?hI7,?hM7,TB.head (fN 4) [TA,SA,TA,SA,TA,SA,SA,SA,TA,TA,TA,TA,SA,SA,SA] ?hT7 ?hH7⟩
  case hT7 | hH7=>first | (simp (disch:=omega) only [pD,IB,lB,XA,clean1,uB,reduceIte,iS,iA,iN,hss,fR];done) | rfl
  ·omega
  ·omega
def fF (l:VV) (n:Nat):List Rat:=((UA l).map fun r=>r.val) ++ jA (n - (UA l).length) 0
theorem lG (l:VV) (n:Nat) (h:(UA l).length <= n):(fF l n).length = n:=by unfold fF;rw [sA,eA,tA];omega
abbrev c43:CC:=(.seq (.reg [(oD 3 (.mv nC))]) (.seq (.reg [(lF 5 1 1),(oD 6 (.make 3 1 8 [(.int .i64 (0))] (tP 5) (tP 5))),(oD 7 (.callf (.func 34) [(tP 6)])),(mV 4 7)]) (.seq (.reg [(mV 8 4),(mV 9 0),(oD 10 (.callf (.func 19) [(.const (.int .i64 (1)))])),(oD 11 (.callf (.func 44) [(tP 9),(tP 10)])),(oD 12 (.copy 3 (tP 8) (tP 11)))]) (.seq (.reg [(mV 13 4),(mV 3 13)]) .ret))))
theorem cc43:ZA Tryz.prog [] (Tryz.f43.body.getD .skip) = PA c43:=by kernel_rfl
theorem body43:Tryz.f43.body = PA (Tryz.f43.body.getD .skip):=rfl
theorem sof1_C (l:VV) (n L:Nat) (hl:vC l n L) (hn:n <= 1000000) (hL:1 <= L) (hL2:L <= 1000000) :
  YA Tryz.prog 43 [aV l,.one (.iptr [.val (.int .i64 (n:Int))])] (.fresh 48 3 (((fF l n).map eB).map fR) (!decide (n = 0))):=by
 have hints:=ints0 n hn
 have hint:=KE 1 (by omega) (by omega)
 rw [show ((1:Int):Rat) = 1 from rfl] at hint
 have hsc:=vscale_R l (eB 1) n L hl (QB (FE L hL)) hn hL (by omega)
 have hsq:JE l (eB 1).val = (UA l).map fun r=>r.val:=by unfold JE;rw [rawQ_val];simp only [Rat.mul_one]
 rw [hsq] at hsc
 have hl1:=hl.1
 have hsl:(UA (aC (((UA l).map fun r=>r.val).map eB))).length = (UA l).length:=by rw [WB,eA,eA]
 refine WA (rs:=[(RV.tmp 3)]) Tryz.func43 (fun a w=>Tryz.call43 a w) body43 cc43 (by kernel_rfl) ?_
 rw [Tryz.ntmps43]
 simp only [pC,nA,nS]
 repeat (first | (with_reducible first | refine W8 ?_ | refine VA rfl ?_) | ((with_reducible refine X8 fun K hK=>?_);simp (disch:=first | omega | simp only [sB];omega) only [qB,reduceIte,reduceCtorEq,iT,nA,nS,nM,iA,iS,iM,iN,fU,sS];subst hK) | (apply KG (hints) rfl;(case hcl=>(simp only [oE,St.ev,yB,NE];(repeat (first | exact kB | (apply gB;(first | (refine CB rfl (by decide)) | (refine BB rfl (by decide) ?_;assumption) | rfl))));done));(case hu=>(simp only [oE,St.ev,yB,NE];(repeat (first | exact RC | (apply AC;(first | (apply xC;rfl) | rfl))));done));(case hh=>((simp only [YH,nB,nA,IA,if_true,if_false,reduceIte]) <;> rfl))) | refine KB (hint) rfl rfl rfl ?_ | refine KB (hsc) rfl rfl rfl ?_)
 have hcp:List.take (jA n (eB 0)).length (wB fR (UA (aC (((UA l).map fun r=>r.val).map eB)))) ++ List.drop (UA (aC (((UA l).map fun r=>r.val).map eB))).length (wB fR (jA n (eB 0))) = wB fR ((fF l n).map eB):=by
  rw [hsl,WB,tA,List.take_of_length_le (by rw [HG,eA,eA];exact hl1)]
  unfold fF
  rw [List.map_append,<- XC,List.map_replicate]
  congr 1
  rw [jH,jH,<- List.map_drop,<- List.map_drop,List.drop_replicate]
 rw [hcp]
 refine ⟨_,rfl,?_⟩
 exact JD.fresh_enc rfl
def WD (m:MD) (k:Nat):Nat:=((UA m.rows).take k).countP fun r=>!decide (r.rel = 0)
theorem PN (m:MD):WD m 0 = 0:=rfl
theorem QN (m:MD) {k:Nat} (h:k < (UA m.rows).length):WD m (k + 1) = WD m k + (if (UA m.rows)[k].rel = 0 then 0 else 1):=by
 unfold WD
 rw [List.take_succ_eq_append_getElem h,List.countP_append,List.countP_singleton]
 by_cases h0:(UA m.rows)[k].rel = 0
 ·rw [if_pos h0,decide_eq_true h0];rfl
 ·rw [if_neg h0,decide_eq_false h0];rfl
theorem FK (m:MD) (k:Nat):WD m k <= k:=by
 unfold WD
 exact GA List.countP_le_length (by rw [List.length_take];omega)
theorem XU (m:MD) {i k:Nat} (h:i <= k):WD m i <= WD m k:=by
 unfold WD
 have:(UA m.rows).take i = ((UA m.rows).take k).take i:=by rw [List.take_take,Nat.min_eq_left h]
 rw [this]
 exact List.Sublist.countP_le (List.take_sublist _ _)
abbrev aOf1:Cell:=.fn 43 [.ptr 2 0 0 0]
def YK (m:MD):Nat:=(UA m.vars).length + WD m (UA m.rows).length
def kG (m:MD) (i:Nat):List Rat :=
 if (MG m i).rel = 0 then fF (MG m i).coef (YK m) else (fF (MG m i).coef (YK m)).set ((UA m.vars).length + WD m i) ((0 - (MG m i).rel:Int):Rat)
def ofA (m:MD) (k:Nat):QM:=(List.range k).map (kG m)
def ofB (m:MD) (k:Nat):List Rat:=(List.range k).map fun i=>(MG m i).b.val
theorem ofA_succ (m:MD) (k:Nat):ofA m (k + 1) = ofA m k ++ [kG m k]:=by unfold ofA;rw [List.range_succ,List.map_append];rfl
theorem ofB_succ (m:MD) (k:Nat):ofB m (k + 1) = ofB m k ++ [(MG m k).b.val]:=by unfold ofB;rw [List.range_succ,List.map_append];rfl
def fX (m:MD):PB:=⟨aC ((ofA m (UA m.rows).length).map aQ),aQ (ofB m (UA m.rows).length),aQ (fF m.cost (YK m))⟩
def rR (m:MD) (n L:Nat):Prop:=vC m.cost n L /\ ∀ r ∈ UA m.rows,vC r.coef n L /\ vD r.b L
theorem close_P {h:List Blk} {a b c va vb vc ta tb tc:Nat} {la lb lc na nb nc:Bool} {A:List VV} {B C:List RR} {x:CV} (h1:h[a]? = PA ⟨va,ta,1,wB fM A,la,na⟩) (h2:h[b]? = PA ⟨vb,tb,3,wB fR B,lb,nb⟩) (h3:h[c]? = PA ⟨vc,tc,3,wB fR C,lc,nc⟩)
  (n1:na = !A.isEmpty) (n2:nb = !B.isEmpty) (n3:nc = !C.isEmpty) :
  fG h (.tup [.agg [.own a va,.own b vb,.own c vc],.one (.c x)]) = PA (.tup [aP ⟨aC A,aC B,aC C⟩,.one (.c x)]):=by
 have e1:=kH (n:=2) h1 (by decide) n1
 have e2:=kH (n:=2) h2 (by decide) n2
 have e3:=kH (n:=2) h3 (by decide) n3
 unfold fG
 simp [VB,yE,jC,XB] at *
 simp [e1,e2,e3]
theorem wide_nn (l:VV) (n:Nat) (h:(UA l).length <= n):(!decide (n = 0)) = !((fF l n).map eB).isEmpty:=by
 have hl:=lG l n h
 cases hw:fF l n with
 | nil=>rw [hw] at hl;rw [decide_eq_true (by simpa using hl.symm)];rfl
 | cons a t=>rw [hw] at hl;rw [decide_eq_false (by simp at hl;omega)];rfl
abbrev c15_k1:CC:=(.seq (.reg [(lT 84 3 8),(sT 3 2 84),(mI 3 0)]) .ret)
abbrev c15_b1:CC:=(.seq (.reg [(bB 46 .lss 45 44)]) (.seq (.cond (tP 46) .skip (.exit 2)) (.seq (.block 3 (.seq (.reg [(xA 47 6 43 45),(lT 48 6 47),(oD 11 (.new 50 [(.string ⟨#[]⟩),(.slice QA 0 0),(.int .i64 (0)),(.bool TA),(.slice QA 0 0),(.slice QA 0 0)])),(sT 6 11 48)]) (.seq (.reg [(mV 49 7),(fA 50 1 11),(lF 51 1 50),(oD 52 (.callf (tP 49) [(tP 51)])),(mV 12 52)]) (.seq (.seq (.reg [(fA 53 2 11),(lF 54 1 53),(bC 55 .neq 54 0)]) (.cond (tP 55) (.seq (.reg [(mV 56 12),(mV 57 9),(fA 58 2 11),(lF 59 1 58),(oD 60 (.un .neg (tP 59))),(oD 61 (.callf (.func 19) [(tP 60)])),(xA 62 3 56 57),(sT 3 62 61)]) (.reg [(mV 63 9),(bC 64 .add 63 1),(mV 9 64)])) .skip)) (.reg [(fA 65 0 8),(lF 66 1 65),(mV 67 12),(oD 68 (.mkrow 23 1 [(tP 67)])),(oD 69 (.append 23 1 24 (tP 66) (tP 68))),(fA 70 1 8),(lF 71 1 70),(fA 72 3 11),(fA 73 0 72),(lT 74 2 73),(fA 75 3 11),(fA 76 2 75),(lF 77 1 76),(oD 78 (.callf (.func 45) [(tP 74),(tP 77)])),(oD 79 (.mkrow 48 3 [(tP 78)])),(oD 80 (.append 48 3 56 (tP 71) (tP 79))),(fA 81 0 8),(sT 1 81 69),(fA 82 1 8),(sT 1 82 80)]))))) (.reg [(bC 83 .add 45 1),(mV 45 83)]))))
abbrev c15_k2:CC:=(.seq (.reg [(oD 33 (.mkfn 43 [(tP 4)])),(mV 7 33)]) (.seq (.reg [(mV 34 7),(fA 35 1 1),(lF 36 1 35),(oD 37 (.callf (tP 34) [(tP 36)])),(oD 38 (.build [(.slice QA 0 0),(.slice QA 0 0),(.slice QA 0 0)] [(2,(1,(tP 37)))])),(oD 8 (.new 34 [(.slice QA 0 0),(.slice QA 0 0),(.slice QA 0 0)])),(sT 3 8 38)]) (.seq (.reg [(fA 39 0 1),(lF 40 1 39),(nL 41 40),(mV 9 41)]) (.seq (.seq (.reg [(fA 42 2 1),(lF 43 1 42),(nL 44 43),(mI 45 0)]) (.block 2 (.loop c15_b1))) c15_k1))))
abbrev c15_b2:CC:=(.seq (.reg [(bB 24 .lss 23 22)]) (.seq (.cond (tP 24) .skip (.exit 0)) (.seq (.block 1 (.seq (.reg [(xA 25 6 21 23),(lT 26 6 25),(oD 6 (.new 50 [(.string ⟨#[]⟩),(.slice QA 0 0),(.int .i64 (0)),(.bool TA),(.slice QA 0 0),(.slice QA 0 0)])),(sT 6 6 26)]) (.seq (.reg [(fA 27 2 6),(lF 28 1 27),(bC 29 .neq 28 0)]) (.cond (tP 29) (.reg [(lF 30 1 4),(bC 31 .add 30 1),(sT 1 4 31)]) .skip)))) (.reg [(bC 32 .add 23 1),(mV 23 32)]))))
abbrev c15:CC:=(.seq (.reg [(oD 1 (.box 26 (tP 0))),(oD 2 (.new 34 [(.slice QA 0 0),(.slice QA 0 0),(.slice QA 0 0)])),(mI 3 0)]) (.seq (.seq (.reg [(lT 13 3 1),(oD 14 (.callf (.func 41) [(tP 13)])),(uN 15 14)]) (.cond (tP 15) (.seq (.reg [(oD 16 (.build [(.slice QA 0 0),(.slice QA 0 0),(.slice QA 0 0)] [])),(sT 3 2 16),(mI 3 1)]) .ret) .skip)) (.seq (.reg [(fA 17 0 1),(lF 18 1 17),(nL 19 18),(oD 4 (.new 3 [(.int .i64 (0))])),(sT 1 4 19)]) (.seq (.seq (.reg [(fA 20 2 1),(lF 21 1 20),(nL 22 21),(mI 23 0)]) (.block 0 (.loop c15_b2))) c15_k2))))
theorem cc15:ZA Tryz.prog [] (Tryz.f15.body.getD .skip) = PA c15:=by kernel_rfl
theorem body15:Tryz.f15.body = PA (Tryz.f15.body.getD .skip):=rfl
theorem sof_yes (m:MD) (n L:Nat) (hf:rR m n L) (hn:n <= 1000) (hL:1 <= L) (hL2:L <= 1000000) (hw:∀ s ∈ UA m.vars,s.length <= 1000000) (hr:∀ r ∈ UA m.rows,r.name.length <= 1000000) (h:VD m = SA) :
  YA Tryz.prog 15 [aMd m] (.ret (.tup [aP (fX m),aI 0])):=by
 have hm:=mright_C m hw hr
 rw [h] at hm
 have h':=h
 unfold VD at h'
 simp only [JA,decide_eq_true_eq] at h'
 obtain ⟨hv60,hcl,hr60,_,_,hbad⟩:=h'
 have hbad':jG (HH m) (UA m.rows).length = TA:=by simpa using hbad
 have hrow:∀ i (hi:i < (UA m.rows).length),(UA (UA m.rows)[i].coef).length = (UA m.vars).length /\ -1 <= (UA m.rows)[i].rel /\ (UA m.rows)[i].rel <= 1:=fun i hi=>by
  have:=xG hbad' hi
  unfold HH mM at this
  rw [FD hi] at this
  simpa using this
 have hsn:=FK m (UA m.rows).length
 have hnn:YK m = (UA m.vars).length + WD m (UA m.rows).length:=rfl
 refine WA (rs:=[(RV.cell 2 3 SA),(RV.tmp 3)]) Tryz.func15 (fun a w=>Tryz.call15 a w) body15 cc15 (by kernel_rfl) ?_
 rw [Tryz.ntmps15]
 simp only [pC,nA,nS]
 repeat (first | (with_reducible first | refine W8 ?_ | refine VA rfl ?_) | ((with_reducible refine X8 fun K hK=>?_);simp (disch:=first | omega | simp only [sB];omega) only [qB,reduceIte,reduceCtorEq,iT,nA,nS,nM,iA,iS,iM,iN,fU];subst hK) | refine KB (hm) rfl rfl rfl ?_)
 refine xB (fun (zz:Nat)=>⟨(.junk :: .one (.ptr 0 0 0 0) :: .one (.ptr 1 0 0 0) :: .junk :: .one (.ptr 2 0 0 0) :: L8 (.one (.c (jB 6 DD m.rows)) :: aI (UA m.rows).length :: aI zz :: K8 (L8 (J8 (J4 (.junk :: [])))))),[⟨0,26,3,[[.c (jB 1 fW m.vars),.c (vr m.cost),.c (jB 6 DD m.rows)]],SA,SA⟩,⟨0,34,3,[[.c (.val (.slice QA 0 0)),.c (.val (.slice QA 0 0)),.c (.val (.slice QA 0 0))]],SA,SA⟩,⟨0,3,1,[[.c (.val (.int .i64 (((UA m.vars).length + WD m zz:Nat):Int)))]],SA,SA⟩]⟩) (fun (zz:Nat)=>zz <= (UA m.rows).length) (fun (zz:Nat)=>(UA m.rows).length - zz) (0) ?hI1 (TB.head (fN 3) [TA,SA,SA,TA,SA,TA,TA,TA,TA,TA,TA,TA,TA,TA,TA,TA,TA,TA,TA,TA,TA,SA,SA,SA] ?hT1 ?hH1) ?hB1
 case hT1 | hH1=>first | (simp (disch:=omega) only [pD,IB,lB,XA,clean1,uB,reduceIte,iS,iA,iN,PN,Nat.add_zero];done) | rfl
 ·exact fN _
 rintro i hi
 by_cases him:i = (UA m.rows).length
 case neg =>
  have hlt:i < (UA m.rows).length:=by omega
  have hsl:=FK m i
  have hss:=QN m hlt
  by_cases h0:(UA m.rows)[i].rel = 0
  ·rw [if_pos h0] at hss
   repeat (first | (with_reducible first | refine W8 ?_ | refine VA rfl ?_) | ((with_reducible refine X8 fun K hK=>?_);simp (disch:=first | omega | simp only [sB];omega) only [qB,reduceIte,reduceCtorEq,iT,nA,nS,nM,iA,iS,iM,iN,fU,DD];subst hK))
   refine ⟨(i + 1),?hI2,?hM2,TB.head (fN 3) [TA,SA,SA,TA,SA,TA,TA,TA,TA,TA,TA,TA,TA,TA,TA,TA,TA,TA,TA,TA,TA,SA,SA,SA] ?hT2 ?hH2⟩
   case hT2 | hH2=>first | (simp (disch:=omega) only [pD,IB,lB,XA,clean1,uB,reduceIte,iS,iA,iN,hss,Nat.add_zero];done) | rfl
   ·omega
   ·omega
  ·rw [if_neg h0] at hss
   have hss2:(((UA m.vars).length + WD m (i + 1):Nat):Int) = ((UA m.vars).length + WD m i:Nat) + 1:=by omega
   repeat (first | (with_reducible first | refine W8 ?_ | refine VA rfl ?_) | ((with_reducible refine X8 fun K hK=>?_);simp (disch:=first | omega | simp only [sB];omega) only [qB,reduceIte,reduceCtorEq,iT,nA,nS,nM,iA,iS,iM,iN,fU,DD];subst hK))
   refine ⟨(i + 1),?hI3,?hM3,TB.head (fN 3) [TA,SA,SA,TA,SA,TA,TA,TA,TA,TA,TA,TA,TA,TA,TA,TA,TA,TA,TA,TA,TA,SA,SA,SA] ?hT3 ?hH3⟩
   case hT3 | hH3=>first | (simp (disch:=omega) only [pD,IB,lB,XA,clean1,uB,reduceIte,iS,iA,iN,hss2];done) | rfl
   ·omega
   ·omega
 rw [him,<- hnn]
 have hcost:=sof1_C m.cost (YK m) L ⟨by omega,hf.1.2⟩ (by omega) hL hL2
 have hone:∀ i (hi:i < (UA m.rows).length),YA Tryz.prog 43 [aV (UA m.rows)[i].coef,.one (.iptr [.val (.int .i64 ((YK m:Nat):Int))])] (.fresh 48 3 (((fF (UA m.rows)[i].coef (YK m)).map eB).map fR) (!decide (YK m = 0))):=fun i hi =>
  sof1_C _ (YK m) L ⟨by have:=(hrow i hi).1;omega,(hf.2 _ (gA hi)).1.2⟩ (by omega) hL hL2
 repeat (first | (with_reducible first | refine W8 ?_ | refine VA rfl ?_) | ((with_reducible refine X8 fun K hK=>?_);simp (disch:=first | omega | simp only [sB];omega) only [qB,reduceIte,reduceCtorEq,iT,nA,nS,nM,iA,iS,iM,iN,fU];subst hK) | (apply EN (ids:=[2]) (hcost) rfl;(case hcl=>(simp only [oE,St.ev,yB,NE];(repeat (first | exact kB | (apply gB;(first | (refine CB rfl (by decide)) | (refine BB rfl (by decide) ?_;assumption) | rfl))));done));(case hu=>rfl);(case hh=>((simp only [YH,nB,nA,IA,if_true,if_false,reduceIte]) <;> rfl))))
 refine uD.fgt ?_ (TB.phantom _ 23 1)
 refine uD.fgt ?_ (TB.phantom _ 48 3)
 refine uD.fgt ?_ (TB.cellsOpen (b:=4) (els':=[[.own 5 0,.own 6 0,.own 3 0]]) rfl (.cons (.cons (.inr ⟨rfl,5,_,rfl,rfl,rfl⟩) (.cons (.inr ⟨rfl,6,_,rfl,rfl,rfl⟩) (.cons (.inl rfl) .nil))) .nil))
 simp only [rA,qA,lA,mA]
 refine xB (fun (zz:Nat × (List VV) × (List RR) × Nat × Nat × Bool × Bool)=>⟨(.junk :: .one (.ptr 0 0 0 0) :: .one (.ptr 1 0 0 0) :: J4 (.one aOf1 :: .one (.ptr 4 0 0 0) :: aI ((UA m.vars).length + WD m zz.1:Nat) :: K8 (.junk :: .one (.c (jB 6 DD m.rows)) :: aI (UA m.rows).length :: aI zz.1 :: K8 (J4 (.junk :: .junk :: .junk :: []))))),[⟨0,26,3,[[.c (jB 1 fW m.vars),.c (vr m.cost),.c (jB 6 DD m.rows)]],SA,SA⟩,⟨0,34,3,[[.c (.val (.slice QA 0 0)),.c (.val (.slice QA 0 0)),.c (.val (.slice QA 0 0))]],SA,SA⟩,⟨0,3,1,[[.c (.val (.int .i64 ((YK m:Nat):Int)))]],TA,SA⟩,⟨0,48,3,wB fR ((fF m.cost (YK m)).map eB),SA,!decide (YK m = 0)⟩,⟨0,34,3,[[.own 5 zz.2.2.2.1,.own 6 zz.2.2.2.2.1,.own 3 0]],SA,SA⟩,⟨zz.2.2.2.1,23,1,wB fM zz.2.1,SA,zz.2.2.2.2.2.1⟩,⟨zz.2.2.2.2.1,48,3,wB fR zz.2.2.1,SA,zz.2.2.2.2.2.2⟩]⟩) (fun (zz:Nat × (List VV) × (List RR) × Nat × Nat × Bool × Bool)=>zz.1 <= (UA m.rows).length /\ zz.2.1 = (ofA m zz.1).map aQ /\ zz.2.2.1 = (ofB m zz.1).map eB /\ zz.2.2.2.2.2.1 = !zz.2.1.isEmpty /\ zz.2.2.2.2.2.2 = !zz.2.2.1.isEmpty) (fun (zz:Nat × (List VV) × (List RR) × Nat × Nat × Bool × Bool)=>(UA m.rows).length - zz.1) (0,[],[],0,0,TA,TA) ?hI4 (TB.head (fN 7) (TA :: SA :: SA :: F4 (SA :: SA :: SA :: M8 (TA :: SA :: SA :: SA :: []))) ?hT4 ?hH4) ?hB4
 case hT4 | hH4=>first | (simp (disch:=omega) only [pD,IB,lB,XA,clean1,uB,reduceIte,iS,iA,iN,PN,Nat.add_zero,CE];done) | rfl
 ·dsimp only;exact ⟨fN _,rfl,rfl,rfl,rfl⟩
 rintro ⟨i,out,bs,va,vb,na,nb⟩ ⟨hi2,ho,hb,hna,hnb⟩
 dsimp only at hi2 ho hb hna hnb
 by_cases hin:i = (UA m.rows).length
 ·repeat (first | (with_reducible first | refine W8 ?_ | refine VA rfl ?_) | ((with_reducible refine X8 fun K hK=>?_);simp (disch:=first | omega | simp only [sB];omega) only [qB,reduceIte,reduceCtorEq,iT,nA,nS,nM,iA,iS,iM,iN,fU];subst hK))
  refine ⟨_,rfl,?_⟩
  rw [hin] at ho hb
  show fG _ (.tup [.agg [.own 5 va,.own 6 vb,.own 3 0],.one (.c (.val (.int .i64 0)))]) = _
  rw [close_P (A:=out) (B:=bs) (C:=(fF m.cost (YK m)).map eB) rfl rfl rfl hna hnb (wide_nn _ _ (by omega)),ho,hb]
  rfl
 ·have hlt:i < (UA m.rows).length:=by omega
  obtain ⟨hcf,hr1,hr2⟩:=hrow i hlt
  have hrw:=hone i hlt
  have hfb:=(hf.2 _ (gA hlt)).2
  have hmk:=aH (TJ (UA m.rows)[i].b) (UA m.rows)[i].b.den (GA hfb.1 (by omega)) (GA hfb.2 (by omega))
  rw [aG,RD] at hmk
  change YA _ _ _ (.ret (aR (eB (UA m.rows)[i].b.val))) at hmk
  have hss:=QN m hlt
  have hmo:=XU m (show i + 1 <= (UA m.rows).length from hlt)
  have hol:out.length = i:=by rw [ho,eA];unfold ofA;rw [eA,List.length_range]
  have hbl:bs.length = i:=by rw [hb,eA];unfold ofB;rw [eA,List.length_range]
  have hwl:((fF (UA m.rows)[i].coef (YK m)).map eB).length = YK m:=by rw [eA,lG _ _ (by omega)]
  by_cases h0:(UA m.rows)[i].rel = 0
  ·have hss1:WD m (i + 1) = WD m i:=by rw [if_pos h0] at hss;omega
   repeat (first | (with_reducible first | refine W8 ?_ | refine VA rfl ?_) | ((with_reducible refine X8 fun K hK=>?_);simp (disch:=first | omega | simp only [sB];omega) only [qB,reduceIte,reduceCtorEq,iT,nA,nS,nM,iA,iS,iM,iN,fU,DD];subst hK) | (apply EN (ids:=[2]) (hrw) rfl;(case hcl=>(simp only [oE,St.ev,yB,NE];(repeat (first | exact kB | (apply gB;(first | (refine CB rfl (by decide)) | (refine BB rfl (by decide) ?_;assumption) | rfl))));done));(case hu=>rfl);(case hh=>((simp only [YH,nB,nA,IA,if_true,if_false,reduceIte]) <;> rfl))) | refine KB (hmk) rfl rfl rfl ?_)
   have hor:kG m i = fF (UA m.rows)[i].coef (YK m):=by unfold kG;rw [FD hlt,if_pos h0]
   rw [<- hor]
   refine ⟨(i + 1,out ++ [aQ (kG m i)],bs ++ [eB (UA m.rows)[i].b.val],va + 1,vb + 1,SA,SA),⟨by dsimp only;omega,?_,?_,?_,?_⟩,by dsimp only;omega,TB.trans (TB.cellSnocO (b:=5) (c:=8) (f:=fM) (l:=out) (g:=fR) (r:=(kG m i).map eB) (x:=aQ (kG m i)) rfl rfl (by decide) (by rw [hor];exact wide_nn _ _ (by omega)) rfl (by decide)) ?_⟩
   ·dsimp only;rw [ho,ofA_succ,List.map_append];rfl
   ·dsimp only;rw [hb,ofB_succ,List.map_append,FD hlt];rfl
   ·dsimp only;cases out <;> rfl
   ·dsimp only;cases bs <;> rfl
   ·rw [oC]
    simp only [YH,nB,nA,IA,if_true,if_false,reduceIte,mA,lA,YB]
    refine TB.head (fN 7) (TA :: SA :: SA :: F4 (SA :: SA :: SA :: M8 (TA :: SA :: SA :: SA :: []))) ?hT5 ?hH5
    case hT5 | hH5=>first | (simp (disch:=omega) only [pD,IB,lB,XA,clean1,uB,reduceIte,iS,iA,iN,kA,KA,LA,hss1,aOf1,List.map_cons,List.map_nil];done) | rfl
  ·rw [if_neg h0] at hss
   have hss2:(((UA m.vars).length + WD m (i + 1):Nat):Int) = ((UA m.vars).length + WD m i:Nat) + 1:=by omega
   have hfl:∀ x:RR,(List.map Cell.c (fR x)).length = 3:=fun x=>rfl
   have hdr:∀ x:RR,List.drop 3 (List.map Cell.c (fR x)) = []:=fun x=>rfl
   have hN0:decide (YK m = 0) = TA:=decide_eq_false (by omega)
   have hsR:∀ (l:List RR) (k:Nat) (r:RR),(wB fR l).set k [Cell.c (.val (.bool r.minus)),Cell.c (nr r.size),Cell.c (nr r.den)] = wB fR (l.set k r):=fun l k r=>SE l k r
   have hint:=KE (0 - (UA m.rows)[i].rel) (by omega) (by omega)
   repeat (first | (with_reducible first | refine W8 ?_ | refine VA rfl ?_) | ((with_reducible refine X8 fun K hK=>?_);simp (disch:=first | omega | simp only [sB];omega) only [qB,reduceIte,reduceCtorEq,iT,nA,nS,nM,iA,iS,iM,iN,fU,DD,hwl,hfl,hdr,hsR];subst hK) | (apply EN (ids:=[2]) (hrw) rfl;(case hcl=>(simp only [oE,St.ev,yB,NE];(repeat (first | exact kB | (apply gB;(first | (refine CB rfl (by decide)) | (refine BB rfl (by decide) ?_;assumption) | rfl))));done));(case hu=>rfl);(case hh=>((simp only [YH,nB,nA,IA,if_true,if_false,reduceIte]) <;> rfl))) | refine KB (hint) rfl rfl rfl ?_ | refine KB (hmk) rfl rfl rfl ?_)
   have hor:kG m i = (fF (UA m.rows)[i].coef (YK m)).set ((UA m.vars).length + WD m i) ((0 - (UA m.rows)[i].rel:Int):Rat):=by unfold kG;rw [FD hlt,if_neg h0]
   have hmr:(kG m i).map eB = ((fF (UA m.rows)[i].coef (YK m)).map eB).set ((UA m.vars).length + WD m i) (eB ((0 - (UA m.rows)[i].rel:Int):Rat)):=by rw [hor,List.map_set]
   rw [<- hmr]
   refine ⟨(i + 1,out ++ [aQ (kG m i)],bs ++ [eB (UA m.rows)[i].b.val],va + 1,vb + 1,SA,SA),⟨by dsimp only;omega,?_,?_,?_,?_⟩,by dsimp only;omega,TB.trans (TB.cellSnocO (b:=5) (c:=8) (f:=fM) (l:=out) (g:=fR) (r:=(kG m i).map eB) (x:=aQ (kG m i)) rfl rfl (by decide) (by
    cases hq:(kG m i).map eB with
    | nil=>exfalso;have:=congrArg List.length hq;rw [eA,hor,List.length_set,lG _ _ (by omega)] at this;simp at this;omega
    | cons a t=>rfl) rfl (by decide)) ?_⟩
   ·dsimp only;rw [ho,ofA_succ,List.map_append];rfl
   ·dsimp only;rw [hb,ofB_succ,List.map_append,FD hlt];rfl
   ·dsimp only;cases out <;> rfl
   ·dsimp only;cases bs <;> rfl
   ·rw [oC]
    simp only [YH,nB,nA,IA,if_true,if_false,reduceIte,mA,lA,YB]
    refine TB.head (fN 7) (TA :: SA :: SA :: F4 (SA :: SA :: SA :: M8 (TA :: SA :: SA :: SA :: []))) ?hT6 ?hH6
    case hT6 | hH6=>first | (simp (disch:=omega) only [pD,IB,lB,XA,clean1,uB,reduceIte,iS,iA,iN,kA,KA,LA,hss2,hN0,aOf1,List.map_cons,List.map_nil];done) | rfl
def FO (m:MM) (k i:Nat):List Rat:=(List.range i).map fun j=>jE (RJ m j) k
def turnQ (m:MM):QM:=(List.range (cols m)).map fun k=>FO m k (UA m).length
theorem colQ_succ (m:MM) (k i:Nat):FO m k (i + 1) = FO m k i ++ [jE (RJ m i) k]:=by unfold FO;rw [List.range_succ,List.map_append];rfl
abbrev c135_k1:CC:=(.seq (.reg [(mV 49 6),(mV 2 49)]) .ret)
abbrev c135_k2:CC:=(.reg [(bC 48 .add 20 1),(mV 20 48)])
abbrev c135_k3:CC:=(.reg [(mV 44 6),(mV 45 8),(oD 46 (.mkrow 23 1 [(tP 45)])),(oD 47 (.append 23 1 24 (tP 44) (tP 46))),(mV 6 47)])
abbrev c135_b1:CC:=(.seq (.reg [(bB 26 .lss 25 24)]) (.seq (.cond (tP 26) .skip (.exit 2)) (.seq (.block 3 (.seq (.reg [(xA 27 1 23 25),(lF 28 1 27),(mV 10 28)]) (.reg [(mV 29 8),(mV 30 10),(mV 31 7),(xA 32 3 30 31),(fA 33 0 32),(lT 34 2 33),(mV 35 10),(mV 36 7),(xA 37 3 35 36),(fA 38 2 37),(lF 39 1 38),(oD 40 (.callf (.func 45) [(tP 34),(tP 39)])),(oD 41 (.mkrow 48 3 [(tP 40)])),(oD 42 (.append 48 3 56 (tP 29) (tP 41))),(mV 8 42)]))) (.reg [(bC 43 .add 25 1),(mV 25 43)]))))
abbrev c135_b2:CC:=(.seq (.reg [(bB 21 .lss 20 19)]) (.seq (.cond (tP 21) .skip (.exit 0)) (.seq (.block 1 (.seq (.reg [(mV 22 20),(mV 7 22)]) (.seq (.reg [(oD 8 (.mv nC))]) (.seq (.seq (.reg [(mV 23 0),(nL 24 23),(mI 25 0)]) (.block 2 (.loop c135_b1))) c135_k3)))) c135_k2)))
abbrev c135:CC:=(.seq (.reg [(oD 2 (.mv nC))]) (.seq (.reg [(mV 12 0),(oD 13 (.callf (.func 143) [(tP 12)])),(mV 11 13),(eX 14 11 0),(eX 15 11 1),(eX 16 11 2),(mV 3 14),(mV 4 15),(mV 5 16)]) (.seq (.seq (.reg [(mV 17 5),(uN 18 17)]) (.cond (tP 18) (.seq (.reg [(oD 2 (.mv nC))]) .ret) .skip)) (.seq (.reg [(oD 6 (.mv nC))]) (.seq (.seq (.reg [(mV 19 4),(mI 20 0)]) (.block 0 (.loop c135_b2))) c135_k1)))))
theorem cc135:ZA Tryz.prog [] (Tryz.f135.body.getD .skip) = PA c135:=by kernel_rfl
theorem body135:Tryz.f135.body = PA (Tryz.f135.body.getD .skip):=rfl
theorem turn_yes (m:MM) (n L:Nat) (hm:LG m n L) (hn:n <= 1000000) (hL2:L <= 1000000) (hk:MR m = SA) :
  YA Tryz.prog 135 [aM m] (.fresh 23 1 (((turnQ m).map ED).map fM) (!((turnQ m).map ED).isEmpty)):=by
 have hm1:=hm.1
 have hs:=AT m (by omega)
 unfold UF at hs
 rw [hk,if_pos rfl] at hs
 have hk':=hk
 unfold MR at hk'
 simp only [JA,decide_eq_true_eq] at hk'
 have hN0:(UA m).length = 0 -> cols m = 0:=fun h0=>by unfold cols RJ;rw [List.length_eq_zero_iff.1 h0];rfl
 unfold turnQ
 generalize hW:cols m = W at *
 refine WA (rs:=[(RV.tmp 2)]) Tryz.func135 (fun a w=>Tryz.call135 a w) body135 cc135 (by kernel_rfl) ?_
 rw [Tryz.ntmps135]
 simp only [pC,nA,nS]
 repeat (first | (with_reducible first | refine W8 ?_ | refine VA rfl ?_) | ((with_reducible refine X8 fun K hK=>?_);simp (disch:=first | omega | simp only [sB];omega) only [qB,reduceIte,reduceCtorEq,iT,nA,nS,nM,iA,iS,iM,iN,fU];subst hK) | refine KB (hs) rfl rfl rfl ?_)
 refine uD.fgt ?_ (TB.openNil (i:=6) rfl 23 1)
 simp only [lA,mA,pA,oA,qA,rA,nA]
 refine xB (fun (zz:Nat × QM × Nat × Bool)=>⟨(aM m :: J4 (.junk :: .one (.own 0 zz.2.2.1) :: J8 (J4 (aI W :: aI zz.1 :: L8 (J8 (J4 (.junk :: []))))))),[⟨zz.2.2.1,23,1,wB fM (zz.2.1.map ED),SA,zz.2.2.2⟩]⟩) (fun (zz:Nat × QM × Nat × Bool)=>zz.1 <= W /\ zz.2.1 = (List.range zz.1).map (fun j=>FO m j (UA m).length) /\ zz.2.2.2 = !(zz.2.1.map ED).isEmpty) (fun (zz:Nat × QM × Nat × Bool)=>W - zz.1) (0,[],0,TA) ?hI1 (TB.head (fN 1) [SA,TA,TA,TA,TA,TA,SA,TA,TA,TA,TA,TA,TA,TA,TA,TA,TA,TA,TA,SA,SA] ?hT1 ?hH1) ?hB1
 case hT1 | hH1=>first | (simp (disch:=omega) only [pD,IB,lB,XA,clean1,uB,reduceIte,iS,iA,iN,CE,List.map_nil];done) | rfl
 ·dsimp only;exact ⟨by omega,rfl,rfl⟩
 rintro ⟨k,out,u,nn⟩ ⟨hi,ho,hnn⟩
 dsimp only at hi ho hnn
 by_cases hkW:k = W
 ·repeat (first | (with_reducible first | refine W8 ?_ | refine VA rfl ?_) | ((with_reducible refine X8 fun K hK=>?_);simp (disch:=first | omega | simp only [sB];omega) only [qB,reduceIte,reduceCtorEq,iT,nA,nS,nM,iA,iS,iM,iN,fU];subst hK))
  refine ⟨_,rfl,?_⟩
  rw [<- hkW,<- ho,<- hnn]
  exact JD.fresh_enc rfl
 ·have hN:(UA m).length ≠ 0:=fun e=>by have:=hN0 e;omega
  repeat (first | (with_reducible first | refine W8 ?_ | refine VA rfl ?_) | ((with_reducible refine X8 fun K hK=>?_);simp (disch:=first | omega | simp only [sB];omega) only [qB,reduceIte,reduceCtorEq,iT,nA,nS,nM,iA,iS,iM,iN,fU];subst hK))
  refine uD.fgt ?_ (TB.openNil (i:=8) rfl 48 3)
  simp only [lA,mA,pA,oA,qA,rA,nA]
  refine xB (fun (zz:Nat × (List RR) × Nat × Bool)=>⟨(aM m :: J4 (.junk :: .one (.own 0 u) :: aI k :: .one (.own 1 zz.2.2.1) :: J8 (.junk :: .junk :: aI W :: aI k :: .junk :: .junk :: aM m :: aI (UA m).length :: aI zz.1 :: L8 (J8 ([]))))),[⟨u,23,1,wB fM (out.map ED),SA,nn⟩,⟨zz.2.2.1,48,3,wB fR zz.2.1,SA,zz.2.2.2⟩]⟩) (fun (zz:Nat × (List RR) × Nat × Bool)=>zz.1 <= (UA m).length /\ zz.2.1 = (FO m k zz.1).map eB /\ zz.2.2.2 = !zz.2.1.isEmpty) (fun (zz:Nat × (List RR) × Nat × Bool)=>(UA m).length - zz.1) (0,[],0,TA) ?hI2 (TB.headN (fN 2) [SA,TA,TA,TA,TA,TA,SA,SA,SA,TA,TA,TA,TA,TA,TA,TA,TA,TA,TA,SA,SA,TA,TA,SA,SA,SA]) ?hB2
  ·dsimp only;exact ⟨by omega,rfl,rfl⟩
  rintro ⟨i,r,v,rn⟩ ⟨hi2,hr,hrn⟩
  dsimp only at hi2 hr hrn
  have hrl:r.length = i:=by rw [hr,eA];unfold FO;rw [eA,List.length_range]
  have hol:out.length = k:=by rw [ho,eA,List.length_range]
  by_cases hin:i = (UA m).length
  ·have hrt:rn = SA:=by
    rw [hrn]
    cases r with
    | nil=>simp at hrl;omega
    | cons a b=>rfl
   subst hrt
   repeat (first | (with_reducible first | refine W8 ?_ | refine VA rfl ?_) | ((with_reducible refine X8 fun K hK=>?_);simp (disch:=first | omega | simp only [sB];omega) only [qB,reduceIte,reduceCtorEq,iT,nA,nS,nM,iA,iS,iM,iN,fU,eA];subst hK))
   refine ⟨(k + 1,out ++ [FO m k (UA m).length],u + 1,SA),⟨by dsimp only;omega,?_,?_⟩,by dsimp only;omega,TB.trans (TB.cellSnoc (b:=0) (c:=1) (l:=out.map ED) (x:=ED (FO m k (UA m).length)) rfl rfl (by decide) ?_ (by decide)) ?_⟩
   ·dsimp only
    rw [ho,List.range_succ,List.map_append]
    rfl
   ·dsimp only;cases out <;> rfl
   ·rw [hr,hin];rfl
   ·rw [oC]
    simp only [YH,nB,nA,IA,if_true,if_false,reduceIte,mA]
    have hmap:(out ++ [FO m k (UA m).length]).map ED = out.map ED ++ [ED (FO m k (UA m).length)]:=by rw [List.map_append];rfl
    refine TB.head (fN 1) [SA,TA,TA,TA,TA,TA,SA,TA,TA,TA,TA,TA,TA,TA,TA,TA,TA,TA,TA,SA,SA] ?hT ?hH
    case hT=>first | (simp (disch:=omega) only [pD,IB,lB,XA,clean1,uB,reduceIte,iS,iA,iN];done) | rfl
    case hH=>first | (simp (disch:=omega) only [pD,IB,lB,XA,clean1,uB,reduceIte,iS,iA,iN,hmap,kA,KA,LA];done) | rfl
  ·have hlt:i < (UA m).length:=by omega
   have hrow:(UA (UA m)[i]).length = W:=by have:=MI hk'.1 hlt;rw [mF hlt,hW] at this;exact this
   have hkl:k < (UA (UA m)[i]).length:=by omega
   have fi:=(hm.2 _ (gA hlt)).2 _ (gA hkl)
   have hmk:=aH (TJ (UA (UA m)[i])[k]) (UA (UA m)[i])[k].den (GA fi.1 (by omega)) (GA fi.2 (by omega))
   rw [aG,RD] at hmk
   change YA _ _ _ (.ret (aR (eB (UA (UA m)[i])[k].val))) at hmk
   repeat (first | (with_reducible first | refine W8 ?_ | refine VA rfl ?_) | ((with_reducible refine X8 fun K hK=>?_);simp (disch:=first | omega | simp only [sB];omega) only [qB,reduceIte,reduceCtorEq,iT,nA,nS,nM,iA,iS,iM,iN,fU,fM,fR];subst hK) | refine KB (hmk) rfl rfl rfl ?_)
   refine ⟨(i + 1,r ++ [eB (UA (UA m)[i])[k].val],v + 1,SA),?hI3,?hM3,TB.head (fN 2) [SA,TA,TA,TA,TA,TA,SA,SA,SA,TA,TA,TA,TA,TA,TA,TA,TA,TA,TA,SA,SA,TA,TA,SA,SA,SA] ?hT3 ?hH3⟩
   case hT3 | hH3=>first | (simp (disch:=omega) only [pD,IB,lB,XA,clean1,uB,reduceIte,iS,iA,iN,YB,kA,KA,LA];done) | rfl
   ·dsimp only
    refine ⟨by omega,?_,by simp⟩
    rw [hr,colQ_succ,List.map_append,mF hlt]
    unfold jE
    rw [fE hkl]
    rfl
   ·dsimp only;omega
end Go.Proofs.YtncgbjhojbnecaaGreat
