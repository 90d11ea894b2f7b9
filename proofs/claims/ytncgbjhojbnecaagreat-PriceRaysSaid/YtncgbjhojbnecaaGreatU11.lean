/- Walks of shape: Does, Column, Back. -/
import Derived.Laws.RangeString
import Derived.LoopTactic
import Derived.Maps.RangeWalk
import Derived.Test.YtncgbjhojbnecaaGreatU10
import Derived.Test.YtncgbjhojbnecaaGreatU6
import Derived.Test.YtncgbjhojbnecaaGreatU8
import Derived.Test.YtncgbjhojbnecaaGreatU9
set_option linter.unusedSimpArgs false
set_option linter.unusedVariables false
set_option linter.unnecessarySimpa false
set_option maxRecDepth 100000
set_option maxHeartbeats 4000000
open Go.Am.Way renaming imp -> W8
open Go.Am.WayR renaming imp -> X8
open Bool renaming false -> TA, true -> SA, or_true -> KA, not_false -> LA, and_eq_true -> JA
open Nat renaming le_refl -> EA, zero_le -> fN, lt_of_lt_of_le -> HA, le_trans -> GA
open List renaming getElem_mem -> gA, getD_eq_getElem?_getD -> bA, getElem?_eq_getElem -> aA, mem_range -> zA, set_cons_succ -> lA, set_cons_zero -> mA, length_nil -> pA, length_cons -> oA, nil_append -> qA, cons_append -> rA, length_map -> eA, isEmpty_cons -> kA, mem_map -> yA, getElem?_eq_some_iff -> dA, replicate -> jA, length_replicate -> tA, map_map -> uA
open Option renaming some -> PA, none -> QA
namespace Go.Proofs.YtncgbjhojbnecaaGreat
open Go Go.Am Go.Proofs Go.RowKit Go.Off
open Nat renaming reduceAdd -> nA,reduceSub -> nS,reduceMul -> nM,reduceBEq -> nB
open Int renaming reduceToNat -> iT,reduceAdd -> iA,reduceSub -> iS,reduceMul -> iM,reduceNeg -> iN
def pAt (q:RR -> Bool) (a:VV) (i:Nat):Bool:=q (dF a i)
abbrev aFn (f:FuncId):AV:=.one (.fn f [])
theorem idxR_C (a:VV) (f:FuncId) (q:RR -> Bool) (hl:(UA a).length <= 1000000) (hq:∀ r ∈ UA a,YA Tryz.prog f [aR r] (.ret (aB (q r)))) :
  YA Tryz.prog 115 [aV a,aFn f] (.ret (aI (sN (pAt q a) (UA a).length))):=by
 refine WA (rs:=[(RV.tmp 4)]) Tryz.func115 (fun a w=>Tryz.call115 a w) body115 cc115 (by kernel_rfl) ?_
 rw [Tryz.ntmps115]
 simp only [pC,nA,nS]
 repeat (first | (with_reducible first | refine W8 ?_ | refine VA rfl ?_) | ((with_reducible refine X8 fun K hK=>?_);simp (disch:=first | omega | simp only [sB];omega) only [qB,reduceIte,reduceCtorEq,iT,nA,nS,nM,iA,iS,iM,iN,fU];subst hK))
 refine xB (fun (zz:Nat)=>⟨(aV a :: aFn f :: .junk :: .junk :: aI 0 :: .junk :: aV a :: aI (UA a).length :: aI zz :: J8 (.junk :: .junk :: [])),[]⟩) (fun (zz:Nat)=>zz <= (UA a).length /\ jG (pAt q a) zz = TA) (fun (zz:Nat)=>(UA a).length - zz) (0) ?hI1 (TB.headA (EA _) [SA,SA,TA,TA,SA,TA,SA,SA,SA]) ?hB1
 ·exact ⟨fN _,rfl⟩
 rintro i ⟨hi,hs⟩
 by_cases him:i = (UA a).length
 ·repeat (first | (with_reducible first | refine W8 ?_ | refine VA rfl ?_) | ((with_reducible refine X8 fun K hK=>?_);simp (disch:=first | omega | simp only [sB];omega) only [qB,reduceIte,reduceCtorEq,iT,nA,nS,nM,iA,iS,iM,iN,fU];subst hK))
  rw [SI (by rw [<- him];exact hs)]
  exact ⟨_,rfl,rfl⟩
 ·have hlt:i < (UA a).length:=by omega
  have hz:=hq _ (gA hlt)
  have hb:pAt q a i = q (UA a)[i]:=by unfold pAt;rw [fE hlt]
  cases he:q (UA a)[i] with
  | false =>
   rw [he] at hz hb
   repeat (first | (with_reducible first | refine W8 ?_ | refine VA rfl ?_) | ((with_reducible refine X8 fun K hK=>?_);simp (disch:=first | omega | simp only [sB];omega) only [qB,reduceIte,reduceCtorEq,iT,nA,nS,nM,iA,iS,iM,iN,fU,fR];subst hK) | refine zcV (hz) rfl rfl rfl ?_)
   refine ⟨(i + 1),?hI2,?hM2,TB.headA (EA _) [SA,SA,TA,TA,SA,TA,SA,SA,SA]⟩
   ·exact ⟨Nat.succ_le_of_lt hlt,by rw [UK,hs,hb];rfl⟩
   ·show (UA a).length - (i + 1) < (UA a).length - i;omega
  | true =>
   rw [he] at hz hb
   repeat (first | (with_reducible first | refine W8 ?_ | refine VA rfl ?_) | ((with_reducible refine X8 fun K hK=>?_);simp (disch:=first | omega | simp only [sB];omega) only [qB,reduceIte,reduceCtorEq,iT,nA,nS,nM,iA,iS,iM,iN,fU,fR];subst hK) | refine zcV (hz) rfl rfl rfl ?_)
   rw [QI hlt hs hb]
   exact ⟨_,rfl,rfl⟩
theorem conR_C (a:VV) (f:FuncId) (q:RR -> Bool) (hl:(UA a).length <= 1000000) (hq:∀ r ∈ UA a,YA Tryz.prog f [aR r] (.ret (aB (q r)))) :
  YA Tryz.prog 75 [aV a,aFn f] (.ret (aB (jG (pAt q a) (UA a).length))):=by
 have hx:=idxR_C a f q hl hq
 rw [<- HQ]
 generalize sN (pAt q a) (UA a).length = k at *
 refine WA (rs:=[(RV.tmp 4)]) Tryz.func75 (fun a w=>Tryz.call75 a w) body75 cc75 (by kernel_rfl) ?_
 rw [Tryz.ntmps75]
 simp only [pC,nA,nS]
 repeat (first | (with_reducible first | refine W8 ?_ | refine VA rfl ?_) | ((with_reducible refine X8 fun K hK=>?_);simp (disch:=first | omega | simp only [sB];omega) only [qB,reduceIte,reduceCtorEq,iT,nA,nS,nM,iA,iS,iM,iN,fU];subst hK) | refine KB (hx) rfl rfl rfl ?_)
 exact ⟨_,rfl,rfl⟩
def doesTo (p:PB) (x:VV) (k:Nat):Bool:=(List.range k).all fun i=>decide (aL (RJ p.A i) x = jE p.B i)
def r9 (p:PB) (x:VV):Bool:=AD p && (decide ((UA x).length = (UA p.C).length) && (!jG (pAt UY x) (UA x).length && doesTo p x (UA p.A).length))
end Go.Proofs.YtncgbjhojbnecaaGreat
namespace Go.Proofs.YtncgbjhojbnecaaGreat
open Go Go.Am Go.Proofs Go.Off
open Nat renaming reduceAdd -> nA,reduceSub -> nS,reduceMul -> nM,reduceBEq -> nB
open Int renaming reduceToNat -> iT,reduceAdd -> iA,reduceSub -> iS,reduceMul -> iM,reduceNeg -> iN
def f8 (c:UInt8):List CV:=[.val (.int .u8 (c.toNat:Int))]
abbrev aS (s:List UInt8):AV:=.one (.c (.str s))
abbrev c117_b1:CC:=(.seq (.seq (.reg [(mV 7 2),(mV 8 3),(bB 9 .lss 7 8)]) (.cond (tP 9) .skip (.exit 0))) (.seq (.block 1 (.reg [(mV 14 0),(mV 15 2),(mV 16 0),(mV 17 3),(mV 18 0),(mV 19 3),(xA 20 1 18 19),(lF 21 1 20),(mV 22 0),(mV 23 2),(xA 24 1 22 23),(lF 25 1 24),(xA 26 1 14 15),(sT 1 26 21),(xA 27 1 16 17),(sT 1 27 25)])) (.reg [(mV 10 2),(bC 11 .add 10 1),(mV 12 3),(bC 13 .sub 12 1),(mV 2 11),(mV 3 13)])))
abbrev c117:CC:=(.seq (.reg [(mV 4 0),(nL 5 4),(bC 6 .sub 5 1),(mI 2 0),(mV 3 6)]) (.block 0 (.loop c117_b1)))
theorem cc117:ZA Tryz.prog [] (Tryz.f117.body.getD .skip) = PA c117:=by kernel_rfl
theorem body117:Tryz.f117.body = PA (Tryz.f117.body.getD .skip):=rfl
def PE (out:List UInt8) (i:Nat):List UInt8:=(List.range out.length).map fun k=>if k < i \/ out.length - 1 - k < i then out.getD (out.length - 1 - k) 0 else out.getD k 0
theorem rS (out:List UInt8) (i:Nat):(PE out i).length = out.length:=by simp [PE]
theorem revTo_zero (out:List UInt8):PE out 0 = out:=by
 apply List.ext_getElem
 ·simp [PE]
 ·intro k h1 h2;simp [PE,h2]
theorem revTo_done (out:List UInt8) (i:Nat) (h:out.length <= 2 * i + 1):PE out i = out.reverse:=by
 apply List.ext_getElem
 ·simp [PE]
 ·intro k h1 h2
  simp only [List.length_reverse] at h2
  simp only [PE,List.getElem_map,List.getElem_range,List.getElem_reverse]
  have h3:out.length - 1 - k < out.length:=by omega
  by_cases hc:k < i \/ out.length - 1 - k < i
  ·rw [if_pos hc];simp [h3]
  ·rw [if_neg hc]
   have:out.length - 1 - k = k:=by omega
   simp [h2,this]
theorem revTo_step (out:List UInt8) (i:Nat) (h:2 * i + 1 < out.length):PE out (i + 1) = ((PE out i).set i ((PE out i).getD (out.length - 1 - i) 0)).set (out.length - 1 - i) ((PE out i).getD i 0):=by
 apply List.ext_getElem
 ·simp [PE]
 ·intro k h1 h2
  simp only [rS] at h1
  simp only [List.getElem_set]
  have g:∀ m,m < out.length -> (PE out i).getD m 0 = if m < i \/ out.length - 1 - m < i then out.getD (out.length - 1 - m) 0 else out.getD m 0:=fun m hm=>by
   simp only [PE]
   simp [hm]
  have g2:∀ (m j:Nat) (hm:m < (PE out j).length),(PE out j)[m] = if m < j \/ out.length - 1 - m < j then out.getD (out.length - 1 - m) 0 else out.getD m 0:=fun m j hm=>by
   simp only [PE,List.getElem_map,List.getElem_range]
  simp only [g i (by omega),g (out.length - 1 - i) (by omega),g2]
  have e:out.length - 1 - (out.length - 1 - i) = i:=by omega
  rw [e]
  simp only [show ¬(i < i \/ out.length - 1 - i < i) from by omega,show ¬(out.length - 1 - i < i \/ i < i) from by omega,if_false]
  by_cases h3:out.length - 1 - i = k
  ·rw [if_pos h3,if_pos (by omega)]
   congr 1;omega
  ·rw [if_neg h3]
   by_cases h4:i = k
   ·rw [if_pos h4,if_pos (by omega),h4]
   ·rw [if_neg h4]
    by_cases h5:k < i \/ out.length - 1 - k < i
    ·rw [if_pos h5,if_pos (by omega)]
    ·rw [if_neg h5,if_neg (by omega)]
theorem set8 (l:List UInt8) (i:Nat) (x:UInt8):(wB f8 l).set i [Cell.c (.val (.int .u8 (x.toNat:Int)))] = wB f8 (l.set i x):=SE l i x
theorem reverse_C (out:List UInt8) (v:Nat) (h1:1 <= out.length) (h2:out.length <= 1000000000):DE Tryz.prog 117 [.one (.own 0 v)] [⟨v,5,1,wB f8 out,SA,SA⟩] (.tup []) [⟨v,5,1,wB f8 out.reverse,SA,SA⟩]:=by
 refine uF (rs:=[]) Tryz.func117 (fun a w=>Tryz.call117 a w) body117 cc117 (by kernel_rfl) ?_
 rw [Tryz.ntmps117]
 simp only [pC,nA,nS]
 repeat (first | (with_reducible first | refine W8 ?_ | refine VA rfl ?_) | ((with_reducible refine X8 fun K hK=>?_);simp (disch:=first | omega | simp only [sB];omega) only [qB,reduceIte,reduceCtorEq,iT,nA,nS,nM,iA,iS,iM,iN,fU];subst hK))
 refine xB (fun (zz:Nat)=>⟨(.one (.own 0 v) :: .junk :: aI zz :: aI ((out.length:Int) - 1 - zz) :: L8 (J8 ([]))),[⟨v,5,1,wB f8 (PE out zz),SA,SA⟩]⟩) (fun (zz:Nat)=>2 * zz <= out.length) (fun (zz:Nat)=>out.length - zz) (0) ?hI1 (TB.head (EA _) [SA,TA,SA,SA] ?hT1 ?hH1) ?hB1
 case hT1 | hH1=>first | (simp (disch:=omega) only [pD,IB,lB,XA,clean1,uB,reduceIte,iS,iA,iN,Int.sub_zero,revTo_zero];done) | rfl
 ·exact fN _
 intro i hi
 by_cases hlt:2 * i + 1 < out.length
 ·have hL:=rS out i
  have hj:((out.length:Int) - 1 - i).toNat = out.length - 1 - i:=by omega
  have hst:=revTo_step out i hlt
  have g1:(PE out i).getD i 0 = (PE out i)[i]'(by omega):=by rw [bA,aA (by omega)];rfl
  have g2:(PE out i).getD (out.length - 1 - i) 0 = (PE out i)[out.length - 1 - i]'(by omega):=by rw [bA,aA (by omega)];rfl
  rw [g1,g2] at hst
  have hc:((out.length:Int) - 1 - i) - 1 = (out.length:Int) - 1 - (i + 1:Nat):=by omega
  repeat (first | (with_reducible first | refine W8 ?_ | refine VA rfl ?_) | ((with_reducible refine X8 fun K hK=>?_);simp (disch:=first | omega | simp only [sB];omega) only [qB,reduceIte,reduceCtorEq,iT,nA,nS,nM,iA,iS,iM,iN,fU,hj,hL,f8,set8];subst hK))
  refine ⟨(i + 1),?hI2,?hM2,TB.head (EA _) [SA,TA,SA,SA] ?hT2 ?hH2⟩
  case hT2 | hH2=>first | (simp (disch:=omega) only [pD,IB,lB,XA,clean1,uB,reduceIte,iS,iA,iN,hst,hc];done) | rfl
  ·omega
  ·omega
 ·have hd:=revTo_done out i (by omega)
  rw [hd]
  repeat (first | (with_reducible first | refine W8 ?_ | refine VA rfl ?_) | ((with_reducible refine X8 fun K hK=>?_);simp (disch:=first | omega | simp only [sB];omega) only [qB,reduceIte,reduceCtorEq,iT,nA,nS,nM,iA,iS,iM,iN,fU];subst hK))
  exact ⟨rfl,rfl⟩
open Go Go.Am Go.Proofs Go.RowKit Go.Off
open Nat renaming reduceAdd -> nA,reduceSub -> nS,reduceMul -> nM,reduceBEq -> nB
open Int renaming reduceToNat -> iT,reduceAdd -> iA,reduceSub -> iS,reduceMul -> iM,reduceNeg -> iN
def nmOk (pos:Nat) (c:Int):Bool:=decide (97 <= c /\ c <= 122) || (!decide (pos = 0) && (decide (c = 95) || decide (48 <= c /\ c <= 57)))
def nmF (s:ByteArray):Nat -> Nat -> Bool
 | 0,_=>SA
 | b + 1,pos=>if pos < s.size then nmOk pos (Utf8.decode s pos).1 && nmF s b (pos + (Utf8.decode s pos).2) else SA
def uQ (s:ByteArray):Bool:=nmF s s.size 0 && (decide (1 <= s.size) && decide (s.size <= 16))
theorem nm_width (s:ByteArray) (pos:Nat) (h:pos < s.size):1 <= (Utf8.decode s pos).2:=by
 by_cases ha:(s[pos]'h).toNat < 128
 ·rw [decode_ascii s pos h ha]
  exact EA _
 ·exact (decode_high s pos h (by omega)).2
theorem nmF_end (s:ByteArray) (b pos:Nat) (h:¬ pos < s.size):nmF s b pos = SA:=by
 cases b with
 | zero=>rfl
 | succ b=>simp [nmF,h]
theorem nmF_no {s:ByteArray} {b pos:Nat} (hp:pos < s.size) (hb:s.size <= pos + b) (h:nmOk pos (Utf8.decode s pos).1 = TA):nmF s b pos = TA:=by
 cases b with
 | zero=>omega
 | succ b=>unfold nmF;rw [if_pos hp,h];rfl
theorem nmF_yes {s:ByteArray} {b pos:Nat} (hp:pos < s.size) (hb:s.size <= pos + b) (h:nmOk pos (Utf8.decode s pos).1 = SA):∃ c,nmF s b pos = nmF s c (pos + (Utf8.decode s pos).2) /\ s.size <= pos + (Utf8.decode s pos).2 + c:=by
 have hw:=nm_width s pos hp
 cases b with
 | zero=>omega
 | succ b =>
  refine ⟨b,?_,by omega⟩
  show (if pos < s.size then nmOk pos (Utf8.decode s pos).1 && nmF s b (pos + (Utf8.decode s pos).2) else SA) = _
  rw [if_pos hp,h,Bool.true_and]
theorem nmOk_no {pos:Nat} {c:Int} (h1:¬ (97 <= c /\ c <= 122)) (h2:pos = 0 \/ (c ≠ 95 /\ ¬ (48 <= c /\ c <= 57))):nmOk pos c = TA:=by
 unfold nmOk
 rw [decide_eq_false h1,Bool.false_or]
 rcases h2 with h2 | ⟨h2,h3⟩
 ·rw [decide_eq_true h2];rfl
 ·rw [decide_eq_false h2,decide_eq_false h3];simp
theorem nmOk_yes {pos:Nat} {c:Int} (h:(97 <= c /\ c <= 122) \/ (pos ≠ 0 /\ (c = 95 \/ (48 <= c /\ c <= 57)))):nmOk pos c = SA:=by
 unfold nmOk
 rcases h with h | ⟨h1,h2⟩
 ·rw [decide_eq_true h];rfl
 ·rw [decide_eq_false h1]
  rcases h2 with h2 | h2
  ·rw [decide_eq_true h2];simp
  ·rw [decide_eq_true h2];simp
set_option maxRecDepth 1000000 in
theorem name_walk (s:ByteArray) (w:World) (hs:s.size <= 9223372036854775807) :
  Calls Tryz.prog 119 #[.string s] w fun e w'=>e = .returned (.bool (uQ s)) /\ ∃ pos,w' = w.iter s pos:=by
 go_enter Tryz.func119,Tryz.ntmps119
 go_wp2
 go_loopw [2] (fun n w'=>∃ (pos b:Nat),w' = w.iter s pos /\ n = .bool TA /\ nmF s b pos = nmF s s.size 0 /\ s.size <= pos + b) (fun _ w'=>s.size - w'.iterPos w.heap.size)
 case atStart=>exact ⟨0,s.size,rfl,rfl,rfl,by omega⟩
 case round =>
  obtain ⟨pos,b,rfl,rfl,hc,hb⟩:=hrel
  by_cases hp:pos < s.size
  ·have hnx:∀ ty,(Instr.next (.pointer (PA ⟨w.heap.size,0,QA⟩)) SA ty).run Tryz.prog (w.iter s pos) = _:=fun ty=>run_next_any w s pos ty hp
   have hyes:=nmF_yes hp hb
   have hno:=nmF_no hp hb
   have hwd:=nm_width s pos hp
   rw [hc] at hno hyes
   by_cases h0:pos = 0
   ·subst h0
    go_wp2
    all_goals (try simp only [Bool.not_eq_true',Bool.not_eq_false',decide_eq_true_eq,decide_eq_false_iff_not,beq_iff_eq,beq_eq_false_iff_ne,bne_iff_ne,bne_eq_false_iff_eq,ne_eq,Decidable.not_not] at *)
    all_goals first
     | (go_ret
        refine ⟨?_,_,rfl⟩
        have hn:uQ s = TA:=by unfold uQ;rw [hno (nmOk_no (by omega) (by omega))];rfl
        rw [hn]
        rfl)
     | (obtain ⟨d,hd,hd2⟩:=hyes (nmOk_yes (by omega))
        refine ⟨⟨_,d,rfl,by first | rfl | trivial,?_,?_⟩,?_⟩
        ·simpa using hd.symm
        ·simpa using hd2
        ·simp
         omega)
   ·go_wp2
    all_goals (try simp only [Bool.not_eq_true',Bool.not_eq_false',decide_eq_true_eq,decide_eq_false_iff_not,beq_iff_eq,beq_eq_false_iff_ne,bne_iff_ne,bne_eq_false_iff_eq,ne_eq,Decidable.not_not] at *)
    all_goals first
     | (go_ret
        refine ⟨?_,_,rfl⟩
        have hn:uQ s = TA:=by unfold uQ;rw [hno (nmOk_no (by omega) (by omega))];rfl
        rw [hn]
        rfl)
     | (obtain ⟨d,hd,hd2⟩:=hyes (nmOk_yes (by omega))
        refine ⟨⟨_,d,rfl,by first | rfl | trivial,?_,?_⟩,?_⟩
        ·simpa using hd.symm
        ·simpa using hd2
        ·simp
         omega)
  ·have hnx:∀ ty,(Instr.next (.pointer (PA ⟨w.heap.size,0,QA⟩)) SA ty).run Tryz.prog (w.iter s pos) = _:=fun ty=>run_next_end w s pos ty hp
   go_wp2
   all_goals (
    go_ret
    rw [nmF_end s b pos hp] at hc
    refine ⟨?_,_,rfl⟩
    unfold uQ
    rw [<- hc,Bool.true_and]
    first
     | (rw [decide_eq_true (show 1 <= s.size by omega),Bool.true_and]
        have he:decide (((s.size:Nat):Int) <= 16) = decide (s.size <= 16):=by rw [decide_eq_decide];omega
        rw [<- he]
        rfl)
     | (rw [decide_eq_false (show ¬ 1 <= s.size by omega),Bool.false_and]
        rfl))
def bytesOf (s:List UInt8):ByteArray:=⟨s.toArray⟩
def nmB (s:List UInt8):Bool:=uQ (bytesOf s)
theorem name_C (s:List UInt8) (hs:s.length <= 1000000):YA Tryz.prog 119 [aS s] (.ret (aB (nmB s))):=by
 refine ⟨fun a w=>Tryz.call119 a w,fun w M vals hM hp=>?_⟩
 obtain ⟨v0,q0,e0,p0,hq⟩:=PW.inv hp
 obtain rfl:=e0
 obtain rfl:q0 = []:=List.length_eq_zero_iff.1 hq.1.symm
 have hv:v0 = .string (bytesOf s):=by
  cases p0 with
  | one _ _ hx=>cases hx with
   | c _ _ hx=>cases hx with
    | str _=>rfl
 subst hv
 refine (name_walk (bytesOf s) w (by show s.toArray.size <= _;rw [List.size_toArray];omega)).mono fun e w' ⟨he,pos,hw⟩=>?_
 subst hw
 exact ⟨_,he,(Below.refl w.heap.size w).alloc (EA _) _,.one _ _ (.c _ _ (.val _ rfl))⟩
abbrev ZJ:=List UInt8
def fW (s:ZJ):List CV:=[.str s]
abbrev aSs (l:Option (List ZJ)):AV:=.one (.c (jB 1 fW l))
structure RowM where
 name:ZJ
 coef:VV
 rel:Int
 b:RR
def DD (r:RowM):List CV:=[.str r.name,vr r.coef,.val (.int .i64 r.rel),.val (.bool r.b.minus),nr r.b.size,nr r.b.den]
structure MD where
 vars:Option (List ZJ)
 cost:VV
 rows:Option (List RowM)
abbrev aMd (m:MD):AV:=.agg [.c (jB 1 fW m.vars),.c (vr m.cost),.c (jB 6 DD m.rows)]
def sIs (l:List ZJ) (s:ZJ) (i:Nat):Bool:=s == l.getD i []
def idxS (l:List ZJ) (s:ZJ):Int:=sN (sIs l s) l.length
abbrev c139_k1:CC:=(.seq (.reg [(mI 4 (-1))]) .ret)
abbrev c139_b1:CC:=(.seq (.reg [(bB 9 .lss 8 7)]) (.seq (.cond (tP 9) .skip (.exit 0)) (.seq (.block 1 (.seq (.reg [(mV 10 8),(mV 5 10)]) (.seq (.reg [(mV 11 1),(mV 12 0),(mV 13 5),(xA 14 1 12 13),(lF 15 1 14),(bB 16 .eql 11 15)]) (.cond (tP 16) (.seq (.reg [(mV 17 5),(mV 4 17)]) .ret) .skip)))) (.reg [(bC 18 .add 8 1),(mV 8 18)]))))
abbrev c139:CC:=(.seq (.reg [(mI 4 0)]) (.seq (.seq (.reg [(mV 6 0),(nL 7 6),(mI 8 0)]) (.block 0 (.loop c139_b1))) c139_k1))
theorem cc139:ZA Tryz.prog [] (Tryz.f139.body.getD .skip) = PA c139:=by kernel_rfl
theorem body139:Tryz.f139.body = PA (Tryz.f139.body.getD .skip):=rfl
theorem sindex_C (l:Option (List ZJ)) (s:ZJ) (hl:(UA l).length <= 1000000):YA Tryz.prog 139 [aSs l,aS s] (.ret (aI (idxS (UA l) s))):=by
 unfold idxS
 refine WA (rs:=[(RV.tmp 4)]) Tryz.func139 (fun a w=>Tryz.call139 a w) body139 cc139 (by kernel_rfl) ?_
 rw [Tryz.ntmps139]
 simp only [pC,nA,nS]
 repeat (first | (with_reducible first | refine W8 ?_ | refine VA rfl ?_) | ((with_reducible refine X8 fun K hK=>?_);simp (disch:=first | omega | simp only [sB];omega) only [qB,reduceIte,reduceCtorEq,iT,nA,nS,nM,iA,iS,iM,iN,fU];subst hK))
 refine xB (fun (zz:Nat)=>⟨(aSs l :: aS s :: .junk :: .junk :: aI 0 :: .junk :: aSs l :: aI (UA l).length :: aI zz :: J8 (.junk :: .junk :: [])),[]⟩) (fun (zz:Nat)=>zz <= (UA l).length /\ jG (sIs (UA l) s) zz = TA) (fun (zz:Nat)=>(UA l).length - zz) (0) ?hI1 (TB.headA (EA _) [SA,SA,TA,TA,SA,TA,SA,SA,SA]) ?hB1
 ·exact ⟨fN _,rfl⟩
 rintro i ⟨hi,hs⟩
 by_cases him:i = (UA l).length
 ·repeat (first | (with_reducible first | refine W8 ?_ | refine VA rfl ?_) | ((with_reducible refine X8 fun K hK=>?_);simp (disch:=first | omega | simp only [sB];omega) only [qB,reduceIte,reduceCtorEq,iT,nA,nS,nM,iA,iS,iM,iN,fU];subst hK))
  rw [SI (by rw [<- him];exact hs)]
  exact ⟨_,rfl,rfl⟩
 ·have hlt:i < (UA l).length:=by omega
  have hb:sIs (UA l) s i = (s == (UA l)[i]):=by unfold sIs;rw [bA,aA hlt];rfl
  cases he:(s == (UA l)[i]) with
  | false =>
   rw [he] at hb
   repeat (first | (with_reducible first | refine W8 ?_ | refine VA rfl ?_) | ((with_reducible refine X8 fun K hK=>?_);simp (disch:=first | omega | simp only [sB];omega) only [qB,reduceIte,reduceCtorEq,iT,nA,nS,nM,iA,iS,iM,iN,fU,fW,he];subst hK))
   refine ⟨(i + 1),?hI2,?hM2,TB.headA (EA _) [SA,SA,TA,TA,SA,TA,SA,SA,SA]⟩
   ·exact ⟨Nat.succ_le_of_lt hlt,by rw [UK,hs,hb];rfl⟩
   ·show (UA l).length - (i + 1) < (UA l).length - i;omega
  | true =>
   rw [he] at hb
   repeat (first | (with_reducible first | refine W8 ?_ | refine VA rfl ?_) | ((with_reducible refine X8 fun K hK=>?_);simp (disch:=first | omega | simp only [sB];omega) only [qB,reduceIte,reduceCtorEq,iT,nA,nS,nM,iA,iS,iM,iN,fU,fW,he];subst hK))
   rw [QI hlt hs hb]
   exact ⟨_,rfl,rfl⟩
abbrev c120:CC:=(.seq (.reg [(mI 4 0)]) (.seq (.reg [(mV 5 0),(mV 6 1),(oD 7 (.callf (.func 139) [(tP 5),(tP 6)])),(mV 4 7)]) .ret))
theorem cc120:ZA Tryz.prog [] (Tryz.f120.body.getD .skip) = PA c120:=by kernel_rfl
theorem body120:Tryz.f120.body = PA (Tryz.f120.body.getD .skip):=rfl
theorem lindex_C (l:Option (List ZJ)) (s:ZJ) (hl:(UA l).length <= 1000000):YA Tryz.prog 120 [aSs l,aS s] (.ret (aI (idxS (UA l) s))):=by
 have hx:=sindex_C l s hl
 generalize idxS (UA l) s = k at *
 refine WA (rs:=[(RV.tmp 4)]) Tryz.func120 (fun a w=>Tryz.call120 a w) body120 cc120 (by kernel_rfl) ?_
 rw [Tryz.ntmps120]
 simp only [pC,nA,nS]
 repeat (first | (with_reducible first | refine W8 ?_ | refine VA rfl ?_) | ((with_reducible refine X8 fun K hK=>?_);simp (disch:=first | omega | simp only [sB];omega) only [qB,reduceIte,reduceCtorEq,iT,nA,nS,nM,iA,iS,iM,iN,fU];subst hK) | refine KB (hx) rfl rfl rfl ?_)
 exact ⟨_,rfl,rfl⟩
def nmAt (l:List ZJ) (i:Nat):Bool:=nmB (l.getD i []) && decide (idxS l (l.getD i []) = (i:Int))
def nmTo (l:List ZJ) (k:Nat):Bool:=(List.range k).all (nmAt l)
def vJ (l:List ZJ):Bool:=nmTo l l.length
theorem nmTo_succ (l:List ZJ) (k:Nat):nmTo l (k + 1) = (nmTo l k && nmAt l k):=by unfold nmTo;rw [List.range_succ,List.all_append];simp
theorem tQ {l:List ZJ} {k n:Nat} (hk:k < n) (h:nmAt l k = TA):nmTo l n = TA:=by
 unfold nmTo
 rw [List.all_eq_false]
 exact ⟨k,zA.2 hk,by simp [h]⟩
abbrev c83_k1:CC:=(.seq (.reg [(mB 2 SA)]) .ret)
abbrev c83_b1:CC:=(.seq (.reg [(bB 8 .lss 7 6)]) (.seq (.cond (tP 8) .skip (.exit 0)) (.seq (.block 1 (.seq (.reg [(mV 9 7),(xA 10 1 5 7),(lF 11 1 10),(mV 3 9),(mV 4 11)]) (.seq (.reg [(mV 12 4),(oD 13 (.callf (.func 119) [(tP 12)])),(uN 14 13),(mV 15 14),(gM 16 15 TA 0),(gM 17 15 TA 4),(oG 18 15 TA (.callf (.func 120) [(tP 16),(tP 17)])),(gM 19 15 TA 3),(oG 20 15 TA (.bin .neq (tP 18) (tP 19))),(pT 21 15 20)]) (.cond (tP 21) (.seq (.reg [(mB 2 TA)]) .ret) .skip)))) (.reg [(bC 22 .add 7 1),(mV 7 22)]))))
abbrev c83:CC:=(.seq (.reg [(mB 2 TA)]) (.seq (.seq (.reg [(mV 5 0),(nL 6 5),(mI 7 0)]) (.block 0 (.loop c83_b1))) c83_k1))
theorem cc83:ZA Tryz.prog [] (Tryz.f83.body.getD .skip) = PA c83:=by kernel_rfl
theorem body83:Tryz.f83.body = PA (Tryz.f83.body.getD .skip):=rfl
theorem names_C (l:Option (List ZJ)) (hl:(UA l).length <= 1000000) (hw:∀ s ∈ UA l,s.length <= 1000000):YA Tryz.prog 83 [aSs l] (.ret (aB (vJ (UA l)))):=by
 unfold vJ
 refine WA (rs:=[(RV.tmp 2)]) Tryz.func83 (fun a w=>Tryz.call83 a w) body83 cc83 (by kernel_rfl) ?_
 rw [Tryz.ntmps83]
 simp only [pC,nA,nS]
 repeat (first | (with_reducible first | refine W8 ?_ | refine VA rfl ?_) | ((with_reducible refine X8 fun K hK=>?_);simp (disch:=first | omega | simp only [sB];omega) only [qB,reduceIte,reduceCtorEq,iT,nA,nS,nM,iA,iS,iM,iN,fU];subst hK))
 refine xB (fun (zz:Nat)=>⟨(aSs l :: J4 (aSs l :: aI (UA l).length :: aI zz :: J8 (J4 (.junk :: .junk :: .junk :: [])))),[]⟩) (fun (zz:Nat)=>zz <= (UA l).length /\ nmTo (UA l) zz = SA) (fun (zz:Nat)=>(UA l).length - zz) (0) ?hI3 (TB.headA (EA _) [SA,TA,TA,TA,TA,SA,SA,SA]) ?hB3
 ·exact ⟨fN _,rfl⟩
 rintro i ⟨hi,hs⟩
 by_cases him:i = (UA l).length
 ·rw [<- him,hs]
  repeat (first | (with_reducible first | refine W8 ?_ | refine VA rfl ?_) | ((with_reducible refine X8 fun K hK=>?_);simp (disch:=first | omega | simp only [sB];omega) only [qB,reduceIte,reduceCtorEq,iT,nA,nS,nM,iA,iS,iM,iN,fU];subst hK))
  exact ⟨_,rfl,rfl⟩
 ·have hlt:i < (UA l).length:=by omega
  have hn:=name_C (UA l)[i] (hw _ (gA hlt))
  have hx:=lindex_C l (UA l)[i] hl
  have hb:nmAt (UA l) i = (nmB (UA l)[i] && decide (idxS (UA l) (UA l)[i] = (i:Int))):=by
   have:(UA l).getD i [] = (UA l)[i]:=by rw [bA,aA hlt];rfl
   unfold nmAt;rw [this]
  cases h1:nmB (UA l)[i] with
  | false =>
   rw [h1] at hn hb
   rw [tQ hlt hb]
   repeat (first | (with_reducible first | refine W8 ?_ | refine VA rfl ?_) | ((with_reducible refine X8 fun K hK=>?_);simp (disch:=first | omega | simp only [sB];omega) only [qB,reduceIte,reduceCtorEq,iT,nA,nS,nM,iA,iS,iM,iN,fU,fW];subst hK) | refine KB (hn) rfl rfl rfl ?_)
   exact ⟨_,rfl,rfl⟩
  | true =>
   rw [h1,Bool.true_and] at hb
   rw [h1] at hn
   generalize idxS (UA l) (UA l)[i] = k at *
   by_cases h2:k = (i:Int)
   ·rw [decide_eq_true h2] at hb
    repeat (first | (with_reducible first | refine W8 ?_ | refine VA rfl ?_) | ((with_reducible refine X8 fun K hK=>?_);simp (disch:=first | omega | simp only [sB];omega) only [qB,reduceIte,reduceCtorEq,iT,nA,nS,nM,iA,iS,iM,iN,fU,fW];subst hK) | refine KB (hn) rfl rfl rfl ?_ | refine UJ (hx) ?_)
    refine ⟨(i + 1),?hI4,?hM4,TB.headA (EA _) [SA,TA,TA,TA,TA,SA,SA,SA]⟩
    ·exact ⟨Nat.succ_le_of_lt hlt,by rw [nmTo_succ,hs,hb];rfl⟩
    ·show (UA l).length - (i + 1) < (UA l).length - i;omega
   ·rw [decide_eq_false h2] at hb
    rw [tQ hlt hb]
    repeat (first | (with_reducible first | refine W8 ?_ | refine VA rfl ?_) | ((with_reducible refine X8 fun K hK=>?_);simp (disch:=first | omega | simp only [sB];omega) only [qB,reduceIte,reduceCtorEq,iT,nA,nS,nM,iA,iS,iM,iN,fU,fW];subst hK) | refine KB (hn) rfl rfl rfl ?_ | refine UJ (hx) ?_)
    exact ⟨_,rfl,rfl⟩
theorem encB_snoc_W (l:List ZJ) (s:ZJ):wB fW l ++ [[Cell.c (.str s)]] = wB fW (l ++ [s]):=by simp [wB,fW]
def DH (m:MD):List ZJ:=(UA m.rows).map RowM.name
abbrev c84_k1:CC:=(.seq (.reg [(mV 18 3),(mV 2 18)]) .ret)
abbrev c84_b1:CC:=(.seq (.reg [(bB 9 .lss 8 7)]) (.seq (.cond (tP 9) .skip (.exit 0)) (.seq (.block 1 (.seq (.reg [(xA 10 6 6 8),(lT 11 6 10),(oD 5 (.new 50 [(.string ⟨#[]⟩),(.slice QA 0 0),(.int .i64 (0)),(.bool TA),(.slice QA 0 0),(.slice QA 0 0)])),(sT 6 5 11)]) (.reg [(mV 12 3),(fA 13 0 5),(lF 14 1 13),(oD 15 (.mkrow 9 1 [(tP 14)])),(oD 16 (.append 9 1 16 (tP 12) (tP 15))),(mV 3 16)]))) (.reg [(bC 17 .add 8 1),(mV 8 17)]))))
abbrev c84:CC:=(.seq (.reg [(oD 2 (.mv nC))]) (.seq (.reg [(oD 3 (.mv nC))]) (.seq (.seq (.reg [(mV 6 0),(nL 7 6),(mI 8 0)]) (.block 0 (.loop c84_b1))) c84_k1)))
theorem cc84:ZA Tryz.prog [] (Tryz.f84.body.getD .skip) = PA c84:=by kernel_rfl
theorem body84:Tryz.f84.body = PA (Tryz.f84.body.getD .skip):=rfl
theorem rowNames_C (m:MD) (hl:(UA m.rows).length <= 1000000):YA Tryz.prog 84 [.one (.c (jB 6 DD m.rows))] (.ret (aSs (aC (DH m)))):=by
 refine YA.fresh_rowO (ty:=9) ?_
 refine WA (rs:=[(RV.tmp 2)]) Tryz.func84 (fun a w=>Tryz.call84 a w) body84 cc84 (by kernel_rfl) ?_
 rw [Tryz.ntmps84]
 simp only [pC,nA,nS]
 repeat (first | (with_reducible first | refine W8 ?_ | refine VA rfl ?_) | ((with_reducible refine X8 fun K hK=>?_);simp (disch:=first | omega | simp only [sB];omega) only [qB,reduceIte,reduceCtorEq,iT,nA,nS,nM,iA,iS,iM,iN,fU];subst hK))
 refine uD.fgt ?_ (TB.openNil (i:=3) rfl 9 1)
 simp only [lA,mA,pA,oA,qA,rA,nA]
 refine xB (fun (zz:Nat × (List ZJ) × Nat × Bool)=>⟨(.junk :: .junk :: .junk :: .one (.own 0 zz.2.2.1) :: .junk :: .junk :: .one (.c (jB 6 DD m.rows)) :: aI (UA m.rows).length :: aI zz.1 :: J8 (.junk :: .junk :: [])),[⟨zz.2.2.1,9,1,wB fW zz.2.1,SA,zz.2.2.2⟩]⟩) (fun (zz:Nat × (List ZJ) × Nat × Bool)=>zz.1 <= (UA m.rows).length /\ zz.2.1 = ((UA m.rows).take zz.1).map RowM.name /\ zz.2.2.2 = !zz.2.1.isEmpty) (fun (zz:Nat × (List ZJ) × Nat × Bool)=>(UA m.rows).length - zz.1) (0,[],0,TA) ?hI5 (TB.headN (fN 1) [TA,TA,TA,SA,TA,TA,SA,SA,SA]) ?hB5
 ·dsimp only;exact ⟨by omega,rfl,rfl⟩
 rintro ⟨i,out,v,nn⟩ ⟨hi,ho,hnn⟩
 dsimp only at hi ho hnn
 by_cases him:i = (UA m.rows).length
 ·repeat (first | (with_reducible first | refine W8 ?_ | refine VA rfl ?_) | ((with_reducible refine X8 fun K hK=>?_);simp (disch:=first | omega | simp only [sB];omega) only [qB,reduceIte,reduceCtorEq,iT,nA,nS,nM,iA,iS,iM,iN,fU];subst hK))
  refine ⟨_,rfl,?_⟩
  rw [him,List.take_length] at ho
  have he:(!(DH m).isEmpty) = nn:=by rw [hnn,ho];rfl
  rw [he,show DH m = out from ho.symm]
  exact JD.fresh_enc rfl
 ·have hlt:i < (UA m.rows).length:=by omega
  have hol:out.length = i:=by rw [ho,eA,List.length_take];omega
  repeat (first | (with_reducible first | refine W8 ?_ | refine VA rfl ?_) | ((with_reducible refine X8 fun K hK=>?_);simp (disch:=first | omega | simp only [sB];omega) only [qB,reduceIte,reduceCtorEq,iT,nA,nS,nM,iA,iS,iM,iN,fU,DD];subst hK))
  refine ⟨(i + 1,out ++ [(UA m.rows)[i].name],v + 1,SA),?hI6,?hM6,TB.head (fN 1) [TA,TA,TA,SA,TA,TA,SA,SA,SA] ?hT6 ?hH6⟩
  case hT6 | hH6=>first | (simp (disch:=omega) only [pD,IB,lB,XA,clean1,uB,reduceIte,iS,iA,iN,encB_snoc_W,kA,KA,LA];done) | rfl
  ·dsimp only
   refine ⟨by omega,?_,by simp⟩
   rw [ho,List.take_succ_eq_append_getElem hlt,List.map_append]
   rfl
  ·dsimp only;omega
def MG (m:MD) (i:Nat):RowM:=(UA m.rows).getD i ⟨[],QA,0,zR⟩
theorem FD {m:MD} {i:Nat} (h:i < (UA m.rows).length):MG m i = (UA m.rows)[i]:=by
 unfold MG;rw [bA,aA h];rfl
def mM (n:Nat) (r:RowM):Bool:=!(decide ((UA r.coef).length = n) && (decide (-1 <= r.rel) && decide (r.rel <= 1)))
def HH (m:MD) (i:Nat):Bool:=mM (UA m.vars).length (MG m i)
abbrev aMr1 (n:Nat):AV:=.one (.fn 82 [.iptr [.val (.int .i64 (n:Int))]])
abbrev c82:CC:=(.seq (.reg [(oD 2 (.box 50 (tP 0))),(mB 3 TA)]) (.seq (.reg [(fA 4 1 2),(lF 5 1 4),(nL 6 5),(lF 7 1 1),(bB 8 .neq 6 7),(mV 9 8),(oG 10 9 TA (.faddr 2 (tP 2))),(oG 11 9 TA (.load 1 TA (tP 10))),(oG 12 9 TA (.bin .lss (tP 11) (.const (.int .i64 (-1))))),(pT 13 9 12),(mV 14 13),(oG 15 14 TA (.faddr 2 (tP 2))),(oG 16 14 TA (.load 1 TA (tP 15))),(oG 17 14 TA (.bin .gtr (tP 16) (.const (.int .i64 (1))))),(pT 18 14 17),(mV 3 18)]) .ret))
theorem cc82:ZA Tryz.prog [] (Tryz.f82.body.getD .skip) = PA c82:=by kernel_rfl
theorem body82:Tryz.f82.body = PA (Tryz.f82.body.getD .skip):=rfl
theorem mright1_C (r:RowM) (n:Nat) (hn:n <= 1000000):YA Tryz.prog 82 [.agg ((DD r).map .c),.one (.iptr [.val (.int .i64 (n:Int))])] (.ret (aB (mM n r))):=by
 unfold mM DD
 simp only [List.map_cons,List.map_nil]
 by_cases h1:(UA r.coef).length = n
 ·rw [decide_eq_true h1,Bool.true_and]
  by_cases h2 : -1 <= r.rel
  ·rw [decide_eq_true h2,Bool.true_and]
   by_cases h3:r.rel <= 1
   ·rw [decide_eq_true h3]
    refine WA (rs:=[(RV.tmp 3)]) Tryz.func82 (fun a w=>Tryz.call82 a w) body82 cc82 (by kernel_rfl) ?_
    rw [Tryz.ntmps82]
    simp only [pC,nA,nS]
    repeat (first | (with_reducible first | refine W8 ?_ | refine VA rfl ?_) | ((with_reducible refine X8 fun K hK=>?_);simp (disch:=first | omega | simp only [sB];omega) only [qB,reduceIte,reduceCtorEq,iT,nA,nS,nM,iA,iS,iM,iN,fU,h1];subst hK))
    exact ⟨_,rfl,rfl⟩
   ·rw [decide_eq_false h3]
    refine WA (rs:=[(RV.tmp 3)]) Tryz.func82 (fun a w=>Tryz.call82 a w) body82 cc82 (by kernel_rfl) ?_
    rw [Tryz.ntmps82]
    simp only [pC,nA,nS]
    repeat (first | (with_reducible first | refine W8 ?_ | refine VA rfl ?_) | ((with_reducible refine X8 fun K hK=>?_);simp (disch:=first | omega | simp only [sB];omega) only [qB,reduceIte,reduceCtorEq,iT,nA,nS,nM,iA,iS,iM,iN,fU,h1];subst hK))
    exact ⟨_,rfl,rfl⟩
  ·rw [decide_eq_false h2,Bool.false_and]
   refine WA (rs:=[(RV.tmp 3)]) Tryz.func82 (fun a w=>Tryz.call82 a w) body82 cc82 (by kernel_rfl) ?_
   rw [Tryz.ntmps82]
   simp only [pC,nA,nS]
   repeat (first | (with_reducible first | refine W8 ?_ | refine VA rfl ?_) | ((with_reducible refine X8 fun K hK=>?_);simp (disch:=first | omega | simp only [sB];omega) only [qB,reduceIte,reduceCtorEq,iT,nA,nS,nM,iA,iS,iM,iN,fU,h1];subst hK))
   exact ⟨_,rfl,rfl⟩
 ·rw [decide_eq_false h1,Bool.false_and]
  refine WA (rs:=[(RV.tmp 3)]) Tryz.func82 (fun a w=>Tryz.call82 a w) body82 cc82 (by kernel_rfl) ?_
  rw [Tryz.ntmps82]
  simp only [pC,nA,nS]
  repeat (first | (with_reducible first | refine W8 ?_ | refine VA rfl ?_) | ((with_reducible refine X8 fun K hK=>?_);simp (disch:=first | omega | simp only [sB];omega) only [qB,reduceIte,reduceCtorEq,iT,nA,nS,nM,iA,iS,iM,iN,fU];subst hK))
  exact ⟨_,rfl,rfl⟩
abbrev c121_k1:CC:=(.seq (.reg [(mI 4 (-1))]) .ret)
abbrev c121_b1:CC:=(.seq (.reg [(bB 9 .lss 8 7)]) (.seq (.cond (tP 9) .skip (.exit 0)) (.seq (.block 1 (.seq (.reg [(mV 10 8),(mV 5 10)]) (.seq (.reg [(mV 11 1),(mV 12 0),(mV 13 5),(xA 14 6 12 13),(lT 15 6 14),(oD 16 (.callf (tP 11) [(tP 15)]))]) (.cond (tP 16) (.seq (.reg [(mV 17 5),(mV 4 17)]) .ret) .skip)))) (.reg [(bC 18 .add 8 1),(mV 8 18)]))))
abbrev c121:CC:=(.seq (.reg [(mI 4 0)]) (.seq (.seq (.reg [(mV 6 0),(nL 7 6),(mI 8 0)]) (.block 0 (.loop c121_b1))) c121_k1))
theorem cc121:ZA Tryz.prog [] (Tryz.f121.body.getD .skip) = PA c121:=by kernel_rfl
theorem body121:Tryz.f121.body = PA (Tryz.f121.body.getD .skip):=rfl
theorem idxW_C (m:MD) (n:Nat) (hn:n <= 1000000) (hnv:n = (UA m.vars).length) (hl:(UA m.rows).length <= 1000000) :
  YA Tryz.prog 121 [.one (.c (jB 6 DD m.rows)),aMr1 n] (.ret (aI (sN (HH m) (UA m.rows).length))):=by
 refine WA (rs:=[(RV.tmp 4)]) Tryz.func121 (fun a w=>Tryz.call121 a w) body121 cc121 (by kernel_rfl) ?_
 rw [Tryz.ntmps121]
 simp only [pC,nA,nS]
 repeat (first | (with_reducible first | refine W8 ?_ | refine VA rfl ?_) | ((with_reducible refine X8 fun K hK=>?_);simp (disch:=first | omega | simp only [sB];omega) only [qB,reduceIte,reduceCtorEq,iT,nA,nS,nM,iA,iS,iM,iN,fU];subst hK))
 refine xB (fun (zz:Nat)=>⟨(.one (.c (jB 6 DD m.rows)) :: aMr1 n :: .junk :: .junk :: aI 0 :: .junk :: .one (.c (jB 6 DD m.rows)) :: aI (UA m.rows).length :: aI zz :: J8 (.junk :: .junk :: [])),[]⟩) (fun (zz:Nat)=>zz <= (UA m.rows).length /\ jG (HH m) zz = TA) (fun (zz:Nat)=>(UA m.rows).length - zz) (0) ?hI1 (TB.headA (EA _) [SA,SA,TA,TA,SA,TA,SA,SA,SA]) ?hB1
 ·exact ⟨fN _,rfl⟩
 rintro i ⟨hi,hs⟩
 by_cases him:i = (UA m.rows).length
 ·repeat (first | (with_reducible first | refine W8 ?_ | refine VA rfl ?_) | ((with_reducible refine X8 fun K hK=>?_);simp (disch:=first | omega | simp only [sB];omega) only [qB,reduceIte,reduceCtorEq,iT,nA,nS,nM,iA,iS,iM,iN,fU];subst hK))
  rw [SI (by rw [<- him];exact hs)]
  exact ⟨_,rfl,rfl⟩
 ·have hlt:i < (UA m.rows).length:=by omega
  have hz:=mright1_C (UA m.rows)[i] n hn
  have hb:HH m i = mM n (UA m.rows)[i]:=by unfold HH;rw [FD hlt,hnv]
  unfold DD at hz
  simp only [List.map_cons,List.map_nil] at hz
  cases he:mM n (UA m.rows)[i] with
  | false =>
   rw [he] at hz hb
   repeat (first | (with_reducible first | refine W8 ?_ | refine VA rfl ?_) | ((with_reducible refine X8 fun K hK=>?_);simp (disch:=first | omega | simp only [sB];omega) only [qB,reduceIte,reduceCtorEq,iT,nA,nS,nM,iA,iS,iM,iN,fU,DD];subst hK) | refine zcV (hz) rfl rfl rfl ?_)
   refine ⟨(i + 1),?hI2,?hM2,TB.headA (EA _) [SA,SA,TA,TA,SA,TA,SA,SA,SA]⟩
   ·exact ⟨Nat.succ_le_of_lt hlt,by rw [UK,hs,hb];rfl⟩
   ·show (UA m.rows).length - (i + 1) < (UA m.rows).length - i;omega
  | true =>
   rw [he] at hz hb
   repeat (first | (with_reducible first | refine W8 ?_ | refine VA rfl ?_) | ((with_reducible refine X8 fun K hK=>?_);simp (disch:=first | omega | simp only [sB];omega) only [qB,reduceIte,reduceCtorEq,iT,nA,nS,nM,iA,iS,iM,iN,fU,DD];subst hK) | refine zcV (hz) rfl rfl rfl ?_)
   rw [QI hlt hs hb]
   exact ⟨_,rfl,rfl⟩
abbrev c85:CC:=(.seq (.reg [(mB 4 TA)]) (.seq (.reg [(mV 5 0),(mV 6 1),(oD 7 (.callf (.func 121) [(tP 5),(tP 6)])),(bC 8 .geq 7 0),(mV 4 8)]) .ret))
theorem cc85:ZA Tryz.prog [] (Tryz.f85.body.getD .skip) = PA c85:=by kernel_rfl
theorem body85:Tryz.f85.body = PA (Tryz.f85.body.getD .skip):=rfl
theorem conW_C (m:MD) (n:Nat) (hn:n <= 1000000) (hnv:n = (UA m.vars).length) (hl:(UA m.rows).length <= 1000000) :
  YA Tryz.prog 85 [.one (.c (jB 6 DD m.rows)),aMr1 n] (.ret (aB (jG (HH m) (UA m.rows).length))):=by
 have hx:=idxW_C m n hn hnv hl
 rw [<- HQ]
 generalize sN (HH m) (UA m.rows).length = k at *
 refine WA (rs:=[(RV.tmp 4)]) Tryz.func85 (fun a w=>Tryz.call85 a w) body85 cc85 (by kernel_rfl) ?_
 rw [Tryz.ntmps85]
 simp only [pC,nA,nS]
 repeat (first | (with_reducible first | refine W8 ?_ | refine VA rfl ?_) | ((with_reducible refine X8 fun K hK=>?_);simp (disch:=first | omega | simp only [sB];omega) only [qB,reduceIte,reduceCtorEq,iT,nA,nS,nM,iA,iS,iM,iN,fU];subst hK) | refine KB (hx) rfl rfl rfl ?_)
 exact ⟨_,rfl,rfl⟩
def VD (m:MD):Bool:=decide ((UA m.vars).length <= 60) && (decide ((UA m.cost).length = (UA m.vars).length) && (decide ((UA m.rows).length <= 60) && (vJ (UA m.vars) && (vJ (DH m) && !jG (HH m) (UA m.rows).length))))
abbrev c41:CC:=(.seq (.reg [(oD 1 (.box 26 (tP 0))),(mB 2 TA)]) (.seq (.reg [(fA 5 0 1),(lF 6 1 5),(nL 7 6),(oD 3 (.new 3 [(.int .i64 (0))])),(sT 1 3 7)]) (.seq (.reg [(oD 8 (.mkfn 82 [(tP 3)])),(mV 4 8)]) (.seq (.reg [(lF 9 1 3),(bC 10 .leq 9 60),(mV 11 10),(oG 12 11 SA (.faddr 1 (tP 1))),(oG 13 11 SA (.load 1 TA (tP 12))),(oG 14 11 SA (.len TA (tP 13))),(oG 15 11 SA (.load 1 TA (tP 3))),(oG 16 11 SA (.bin .eql (tP 14) (tP 15))),(pF 17 11 16),(mV 18 17),(oG 19 18 SA (.faddr 2 (tP 1))),(oG 20 18 SA (.load 1 TA (tP 19))),(oG 21 18 SA (.len TA (tP 20))),(oG 22 18 SA (.bin .leq (tP 21) (.const (.int .i64 (60))))),(pF 23 18 22),(mV 24 23),(oG 25 24 SA (.faddr 0 (tP 1))),(oG 26 24 SA (.load 1 TA (tP 25))),(oG 27 24 SA (.callf (.func 83) [(tP 26)])),(pF 28 24 27),(mV 29 28),(oG 30 29 SA (.faddr 2 (tP 1))),(oG 31 29 SA (.load 1 TA (tP 30))),(oG 32 29 SA (.callf (.func 84) [(tP 31)])),(oG 33 29 SA (.callf (.func 83) [(tP 32)])),(pF 34 29 33),(mV 35 34),(oG 36 35 SA (.faddr 2 (tP 1))),(oG 37 35 SA (.load 1 TA (tP 36))),(gM 38 35 SA 4),(oG 39 35 SA (.callf (.func 85) [(tP 37),(tP 38)])),(oG 40 35 SA (.un .not (tP 39))),(pF 41 35 40),(mV 2 41)]) .ret))))
theorem cc41:ZA Tryz.prog [] (Tryz.f41.body.getD .skip) = PA c41:=by kernel_rfl
theorem HN:Tryz.f41.body = PA (Tryz.f41.body.getD .skip):=rfl
theorem mright_C (m:MD) (hw:∀ s ∈ UA m.vars,s.length <= 1000000) (hr:∀ r ∈ UA m.rows,r.name.length <= 1000000):YA Tryz.prog 41 [aMd m] (.ret (aB (VD m))):=by
 unfold VD
 by_cases h1:(UA m.vars).length <= 60
 case neg =>
  rw [decide_eq_false h1,Bool.false_and]
  refine WA (rs:=[(RV.tmp 2)]) Tryz.func41 (fun a w=>Tryz.call41 a w) HN cc41 (by kernel_rfl) ?_
  rw [Tryz.ntmps41]
  simp only [pC,nA,nS]
  repeat (first | (with_reducible first | refine W8 ?_ | refine VA rfl ?_) | ((with_reducible refine X8 fun K hK=>?_);simp (disch:=first | omega | simp only [sB];omega) only [qB,reduceIte,reduceCtorEq,iT,nA,nS,nM,iA,iS,iM,iN,fU];subst hK))
  exact ⟨_,rfl,rfl⟩
 rw [decide_eq_true h1,Bool.true_and]
 by_cases h2:(UA m.cost).length = (UA m.vars).length
 case neg =>
  rw [decide_eq_false h2,Bool.false_and]
  refine WA (rs:=[(RV.tmp 2)]) Tryz.func41 (fun a w=>Tryz.call41 a w) HN cc41 (by kernel_rfl) ?_
  rw [Tryz.ntmps41]
  simp only [pC,nA,nS]
  repeat (first | (with_reducible first | refine W8 ?_ | refine VA rfl ?_) | ((with_reducible refine X8 fun K hK=>?_);simp (disch:=first | omega | simp only [sB];omega) only [qB,reduceIte,reduceCtorEq,iT,nA,nS,nM,iA,iS,iM,iN,fU];subst hK))
  exact ⟨_,rfl,rfl⟩
 rw [decide_eq_true h2,Bool.true_and]
 by_cases h3:(UA m.rows).length <= 60
 case neg =>
  rw [decide_eq_false h3,Bool.false_and]
  refine WA (rs:=[(RV.tmp 2)]) Tryz.func41 (fun a w=>Tryz.call41 a w) HN cc41 (by kernel_rfl) ?_
  rw [Tryz.ntmps41]
  simp only [pC,nA,nS]
  repeat (first | (with_reducible first | refine W8 ?_ | refine VA rfl ?_) | ((with_reducible refine X8 fun K hK=>?_);simp (disch:=first | omega | simp only [sB];omega) only [qB,reduceIte,reduceCtorEq,iT,nA,nS,nM,iA,iS,iM,iN,fU,h2];subst hK))
  exact ⟨_,rfl,rfl⟩
 rw [decide_eq_true h3,Bool.true_and]
 have hn1:=names_C m.vars (by omega) hw
 have hrn:=rowNames_C m (by omega)
 have hn2:=names_C (aC (DH m)) (by rw [WB];unfold DH;rw [eA];omega) (fun s hs=>by
  rw [WB] at hs
  obtain ⟨r,hr',rfl⟩:=yA.1 hs
  exact hr r hr')
 rw [WB] at hn2
 have hc:=conW_C m (UA m.vars).length (by omega) rfl (by omega)
 generalize aC (DH m) = rn at *
 cases c1:vJ (UA m.vars) with
 | false =>
  rw [c1] at hn1
  rw [Bool.false_and]
  refine WA (rs:=[(RV.tmp 2)]) Tryz.func41 (fun a w=>Tryz.call41 a w) HN cc41 (by kernel_rfl) ?_
  rw [Tryz.ntmps41]
  simp only [pC,nA,nS]
  repeat (first | (with_reducible first | refine W8 ?_ | refine VA rfl ?_) | ((with_reducible refine X8 fun K hK=>?_);simp (disch:=first | omega | simp only [sB];omega) only [qB,reduceIte,reduceCtorEq,iT,nA,nS,nM,iA,iS,iM,iN,fU,h2];subst hK) | refine UJ (hn1) ?_)
  exact ⟨_,rfl,rfl⟩
 | true =>
  rw [c1] at hn1
  rw [Bool.true_and]
  cases c2:vJ (DH m) with
  | false =>
   rw [c2] at hn2
   rw [Bool.false_and]
   refine WA (rs:=[(RV.tmp 2)]) Tryz.func41 (fun a w=>Tryz.call41 a w) HN cc41 (by kernel_rfl) ?_
   rw [Tryz.ntmps41]
   simp only [pC,nA,nS]
   repeat (first | (with_reducible first | refine W8 ?_ | refine VA rfl ?_) | ((with_reducible refine X8 fun K hK=>?_);simp (disch:=first | omega | simp only [sB];omega) only [qB,reduceIte,reduceCtorEq,iT,nA,nS,nM,iA,iS,iM,iN,fU,h2];subst hK) | refine UJ (hn1) ?_ | refine UJ (hrn) ?_ | refine UJ (hn2) ?_)
   exact ⟨_,rfl,rfl⟩
  | true =>
   rw [c2] at hn2
   rw [Bool.true_and]
   generalize jG (HH m) (UA m.rows).length = k at *
   refine WA (rs:=[(RV.tmp 2)]) Tryz.func41 (fun a w=>Tryz.call41 a w) HN cc41 (by kernel_rfl) ?_
   rw [Tryz.ntmps41]
   simp only [pC,nA,nS]
   repeat (first | (with_reducible first | refine W8 ?_ | refine VA rfl ?_) | ((with_reducible refine X8 fun K hK=>?_);simp (disch:=first | omega | simp only [sB];omega) only [qB,reduceIte,reduceCtorEq,iT,nA,nS,nM,iA,iS,iM,iN,fU,h2];subst hK) | refine UJ (hn1) ?_ | refine UJ (hrn) ?_ | refine UJ (hn2) ?_ | (apply ZE (by simp (disch:=first | omega | (simp only [sB];omega)) only [qB,reduceIte,reduceCtorEq,iT,nA,nS,nM,iA,iS,iM,iN,fU,h2]) (hc) rfl;(case hcl=>(simp only [oE,St.ev,yB,NE];(repeat (first | exact kB | (apply gB;(first | (refine CB rfl (by decide)) | (refine BB rfl (by decide) ?_;assumption) | rfl))));done));(case hf=>rfl)))
   exact ⟨_,rfl,rfl⟩
theorem sK {α:Type} {e:Nat} {f:α -> List CV} (hfe:∀ x,(f x).length = e) {w:World} {M:Nat -> Prop} {l:Option (List α)} {v:Value} (h:CR w M (jB e f l) v) :
  ∃ (a:Option Addr) (cap:Nat),v = .slice a (UA l).length cap /\ (UA l).length <= cap /\ (0 < (UA l).length -> ∃ g off,a = PA ⟨g,off,QA⟩ /\ g < w.heap.size /\ ∀ i (hi:i < (UA l).length) j c,(f (UA l)[i])[j]? = PA c -> ∃ y,w.cell? ⟨g,off + (i * e + j),QA⟩ = PA y /\ CR w M c y):=by
 cases l with
 | none=>cases h;exact ⟨QA,0,rfl,EA _,fun hi=>absurd hi (Nat.not_lt_zero _)⟩
 | some l =>
  change CR w M (.sl e (l.map f)) v at h
  show ∃ (a:Option Addr) (cap:Nat),v = .slice a l.length cap /\ l.length <= cap /\ (0 < l.length -> _)
  generalize hm:l.map f = m at h
  have hml:m.length = l.length:=by rw [<- hm,eA]
  cases h with
  | emp _ a =>
   have:l.length = 0:=by rw [<- hml];rfl
   rw [this]
   exact ⟨PA a,0,rfl,EA _,fun hi=>absurd hi (Nat.not_lt_zero _)⟩
  | sl _ _ g off cap F hcap hbad hlt hrow hc hv =>
   rw [hml] at hcap
   refine ⟨PA ⟨g,off,QA⟩,cap,by rw [hml],hcap,fun _=>⟨g,off,rfl,hlt,fun i hi j c hjc=>?_⟩⟩
   have hi2:i < l.length:=hi
   have hr:m[i]? = PA (f l[i]):=by rw [<- hm,List.getElem?_map,aA hi2];rfl
   have hj:j < e:=by rw [<- hfe l[i]];exact (dA.1 hjc).1
   exact ⟨F i j,hc i j (by omega) hj,hv i j _ _ hr hjc⟩
theorem vr_c {w:World} {M:Nat -> Prop} {h:List Blk} {hd:Nat -> Value} {x:CV} {v:Value} (hx:VR w M h hd (.c x) v):CR w M x v:=by
 cases hx with
 | c _ _ hx=>exact hx
abbrev NB:=Option (List (Option (List Int)))
def fIs (s:Option (List Int)):List CV:=[jB 1 fI s]
abbrev aNo (n:NB):AV:=.agg [.c (jB 1 fIs n)]
def UD (n:NB) (j:Nat):Option (List Int):=(UA n).getD j QA
theorem qI {n:NB} {j:Nat} (h:j < (UA n).length):UD n j = (UA n)[j]:=by
 unfold UD;rw [bA,aA h];rfl
theorem blkN_out {n:NB} {j:Nat} (h:(UA n).length <= j):UD n j = QA:=by
 unfold UD;rw [bA,List.getElem?_eq_none_iff.2 h];rfl
def NG (n:NB) (j i:Nat):Int:=(UA (UD n j)).getD i 0
def CF (n:NB) (j:Nat):Nat:=(UA (UD n j)).length
def OG (m:MD) (n:NB):Bool:=wM (UA m.vars).length (NG n) (CF n) (UA n).length
structure FitsN (n:NB):Prop where
 l:(UA n).length <= 100
 e:∀ s ∈ UA n,(UA s).length <= 100
 i:∀ s ∈ UA n,∀ z ∈ UA s,-9223372036854775808 <= z /\ z <= 9223372036854775807
theorem FitsN.len {n:NB} (h:FitsN n) (j:Nat):CF n j <= 100:=by
 unfold CF
 by_cases hj:j < (UA n).length
 ·rw [qI hj];exact h.e _ (gA hj)
 ·rw [blkN_out (by omega)];exact fN _
theorem FitsN.key {n:NB} (h:FitsN n) {j i:Nat} (hj:j < (UA n).length) (hi:i < CF n j) : -9223372036854775808 <= NG n j i /\ NG n j i <= 9223372036854775807:=by
 unfold NG
 unfold CF at hi
 rw [qI hj] at hi ⊢
 rw [bA,aA hi]
 exact h.i _ (gA hj) _ (gA hi)
theorem FQ {w:World} {M:Nat -> Prop} {m:MD} {n:NB} {vals:List Value} (hp:PW (AVR w M [] bE) [aMd m,aNo n] vals) :
  ∃ (av ac ar ab:Option Addr) (kv nc kc nr kr kb:Nat) (p:Nat -> Option Addr) (cap:Nat -> Nat),
   vals = [.agg #[.slice av (UA m.vars).length kv,.slice ac nc kc,.slice ar nr kr],.agg #[.slice ab (UA n).length kb]] /\ (UA n).length <= kb /\ (∀ j,j < (UA n).length -> CF n j <= cap j) /\
   (∀ j,j < (UA n).length -> ∃ g off,ab = PA ⟨g,off,QA⟩ /\ g < w.heap.size /\ w.cell? ⟨g,off + j,QA⟩ = PA (.slice (p j) (CF n j) (cap j))) /\
   (∀ j,j < (UA n).length -> ∀ i,i < CF n j -> ∃ g off,p j = PA ⟨g,off,QA⟩ /\ g < w.heap.size /\ w.cell? ⟨g,off + i,QA⟩ = PA (.int .i64 (NG n j i))):=by
 obtain ⟨v0,q0,rfl,p0,hq0⟩:=PW.inv hp
 obtain ⟨v1,q1,rfl,p1,hq1⟩:=PW.inv hq0
 obtain rfl:q1 = []:=List.length_eq_zero_iff.1 hq1.1.symm
 cases p0 with
 | agg _ vs0 hl0 hv0 =>
 cases p1 with
 | agg _ vs1 hl1 hv1 =>
 match vs0,hl0,hv0 with
 | [a,b,c],_,hv0 =>
 match vs1,hl1,hv1 with
 | [d],_,hv1 =>
 obtain ⟨av,kv,rfl,_,_⟩:=sK (e:=1) (f:=fW) (fun _=>rfl) (vr_c (hv0 0 _ a rfl rfl))
 obtain ⟨ac,kc,rfl,_,_⟩:=sK (e:=3) (f:=fR) (fun _=>rfl) (vr_c (hv0 1 _ b rfl rfl))
 obtain ⟨ar,kr,rfl,_,_⟩:=sK (e:=6) (f:=DD) (fun _=>rfl) (vr_c (hv0 2 _ c rfl rfl))
 obtain ⟨ab,kb,rfl,hkb,hab⟩:=sK (e:=1) (f:=fIs) (fun _=>rfl) (vr_c (hv1 0 _ d rfl rfl))
 have hch:∀ j,∃ t:Option Addr × Nat,j < (UA n).length -> (∃ g off,ab = PA ⟨g,off,QA⟩ /\ g < w.heap.size /\ w.cell? ⟨g,off + j,QA⟩ = PA (.slice t.1 (CF n j) t.2)) /\ CF n j <= t.2 /\
   ∀ i,i < CF n j -> ∃ g off,t.1 = PA ⟨g,off,QA⟩ /\ g < w.heap.size /\ w.cell? ⟨g,off + i,QA⟩ = PA (.int .i64 (NG n j i)):=by
  intro j
  by_cases hj:j < (UA n).length
  ·obtain ⟨g,off,ha,hg,hc⟩:=hab (by omega)
   obtain ⟨y,hy,hcr⟩:=hc j hj 0 _ rfl
   obtain ⟨a1,c1,rfl,hc1,hin⟩:=sK (e:=1) (f:=fI) (fun _=>rfl) hcr
   have hln:CF n j = (UA (UA n)[j]).length:=by unfold CF;rw [qI hj]
   refine ⟨(a1,c1),fun _=>⟨⟨g,off,ha,hg,?_⟩,by rw [hln];exact hc1,fun i hi=>?_⟩⟩
   ·rw [hln];simpa using hy
   ·rw [hln] at hi
    obtain ⟨g2,off2,ha2,hg2,hc2⟩:=hin (by omega)
    obtain ⟨y2,hy2,hcr2⟩:=hc2 i hi 0 _ rfl
    cases hcr2
    refine ⟨g2,off2,ha2,hg2,?_⟩
    have hk:NG n j i = (UA (UA n)[j])[i]:=by unfold NG;rw [qI hj,bA,aA hi];rfl
    rw [hk]
    simpa using hy2
  ·exact ⟨(QA,0),fun h=>absurd h hj⟩
 obtain ⟨F,hF⟩:=Classical.axiomOfChoice hch
 exact ⟨av,ac,ar,ab,kv,_,kc,_,kr,kb,fun j=>(F j).1,fun j=>(F j).2,rfl,hkb,fun j hj=>(hF j hj).2.1,fun j hj=>(hF j hj).1,fun j hj=>(hF j hj).2.2⟩
theorem ZN (m:MD) (n:NB) (hn:FitsN n) {w:World} {M:Nat -> Prop} {vals:List Value} (hp:PW (AVR w M [] bE) [aMd m,aNo n] vals) :
  Calls Tryz.prog 39 vals.toArray w (SL (UA m.vars).length (UA n).length (NG n) (CF n) w):=by
 obtain ⟨av,ac,ar,ab,kv,nc,kc,nr,kr,kb,p,cap,rfl,h1,h2,h3,h4⟩:=FQ hp
 refine homes_walk av ac ar ab (UA m.vars).length kv nc kc nr kr (UA n).length kb p (CF n) cap (NG n) w h1 hn.l hn.len h2 h3 h4 (fun j hj i hi=>?_)
 have:=hn.key hj hi
 simpa [Lit.wf,IntKind.min,IntKind.max,IntKind.signed,IntKind.bits] using this
theorem homes_C (m:MD) (n:NB) (hn:FitsN n):YA Tryz.prog 39 [aMd m,aNo n] (.ret (.tup [.junk,aB (OG m n)])):=by
 refine ⟨fun a w=>Tryz.call39 a w,fun w M vals hM hp=>?_⟩
 refine (ZN m n hn hp).mono fun e w' ⟨h1,h2,h3⟩=>?_
 unfold OG
 cases hk:wM (UA m.vars).length (NG n) (CF n) (UA n).length with
 | true =>
  obtain ⟨b,rfl,_⟩:=h1 hk
  refine ⟨_,rfl,h3,.tup _ [.map (PA b),.bool SA] rfl (fun i c v hc hv=>?_)⟩
  match i,hc,hv with
  | 0,hc,hv=>cases hc;exact .junk _
  | 1,hc,hv=>cases hc;cases hv;exact .one _ _ (.c _ _ (.val _ rfl))
 | false =>
  obtain rfl:=h2 hk
  refine ⟨_,rfl,h3,.tup _ [.map QA,.bool TA] rfl (fun i c v hc hv=>?_)⟩
  match i,hc,hv with
  | 0,hc,hv=>cases hc;exact .junk _
  | 1,hc,hv=>cases hc;cases hv;exact .one _ _ (.c _ _ (.val _ rfl))
def lastN (n:NB):Nat -> Int
 | 0=>-1
 | j + 1=>NG n j 0
def gT (n:NB) (j:Nat):Bool:=decide (CF n j ≠ 0) && (decide (lastN n j < NG n j 0) && xT (UA (UD n j)))
def OL (n:NB) (j:Nat):Bool:=(List.range j).all (gT n)
theorem blksTo_succ (n:NB) (j:Nat):OL n (j + 1) = (OL n j && gT n j):=by unfold OL;rw [List.range_succ,List.all_append];simp
theorem blksTo_false {n:NB} {j k:Nat} (hj:j < k) (h:gT n j = TA):OL n k = TA:=by
 unfold OL
 rw [List.all_eq_false]
 exact ⟨j,zA.2 hj,by simp [h]⟩
def bH (m:MD) (n:NB):Bool:=OL n (UA n).length && (OG m n && VD m)
abbrev c12_k1:CC:=(.seq (.reg [(mV 42 6),(mV 43 42),(oG 44 43 SA (.load 3 SA (tP 2))),(oG 45 43 SA (.callf (.func 41) [(tP 44)])),(pF 46 43 45),(mV 4 46)]) .ret)
abbrev c12_b1:CC:=(.seq (.reg [(bB 20 .lss 19 18)]) (.seq (.cond (tP 20) .skip (.exit 0)) (.seq (.block 1 (.seq (.reg [(xA 21 1 17 19),(lF 22 1 21),(mV 9 22)]) (.seq (.seq (.reg [(mV 23 9),(nL 24 23),(bC 25 .eql 24 0),(mV 26 25),(gM 27 26 TA 9),(oG 28 26 TA (.iaddr 1 QA (tP 27) (.const (.int .i64 (0))))),(oG 29 26 TA (.load 1 TA (tP 28))),(gM 30 26 TA 7),(oG 31 26 TA (.bin .leq (tP 29) (tP 30))),(pT 32 26 31),(mV 33 32),(gM 34 33 TA 9),(oG 35 33 TA (.callf (.func 40) [(tP 34)])),(oG 36 33 TA (.un .not (tP 35))),(pT 37 33 36)]) (.cond (tP 37) (.seq (.reg [(mB 4 TA)]) .ret) .skip)) (.reg [(mV 38 9),(oD 39 (.iaddr 1 QA (tP 38) (.const (.int .i64 (0))))),(lF 40 1 39),(mV 7 40)])))) (.reg [(bC 41 .add 19 1),(mV 19 41)]))))
abbrev c12:CC:=(.seq (.reg [(oD 2 (.box 26 (tP 0))),(oD 3 (.box 29 (tP 1))),(mB 4 TA)]) (.seq (.reg [(lT 11 3 2),(lT 12 1 3),(oD 13 (.callf (.func 39) [(tP 11),(tP 12)])),(mV 10 13),(eX 14 10 0),(eX 15 10 1),(mV 5 14),(mV 6 15)]) (.seq (.reg [(mI 7 (-1))]) (.seq (.seq (.reg [(fA 16 0 3),(lF 17 1 16),(nL 18 17),(mI 19 0)]) (.block 0 (.loop c12_b1))) c12_k1))))
theorem cc12:ZA Tryz.prog [] (Tryz.f12.body.getD .skip) = PA c12:=by kernel_rfl
theorem body12:Tryz.f12.body = PA (Tryz.f12.body.getD .skip):=rfl
theorem jK (m:MD) (n:NB) (hn:FitsN n) (hw:∀ s ∈ UA m.vars,s.length <= 1000000) (hr:∀ r ∈ UA m.rows,r.name.length <= 1000000):YA Tryz.prog 12 [aMd m,aNo n] (.ret (aB (bH m n))):=by
 have hh:=homes_C m n hn
 have hmr:=mright_C m hw hr
 have hnl:=hn.l
 refine WA (rs:=[(RV.tmp 4)]) Tryz.func12 (fun a w=>Tryz.call12 a w) body12 cc12 (by kernel_rfl) ?_
 rw [Tryz.ntmps12]
 simp only [pC,nA,nS]
 repeat (first | (with_reducible first | refine W8 ?_ | refine VA rfl ?_) | ((with_reducible refine X8 fun K hK=>?_);simp (disch:=first | omega | simp only [sB];omega) only [qB,reduceIte,reduceCtorEq,iT,nA,nS,nM,iA,iS,iM,iN,fU];subst hK) | refine KB (hh) rfl rfl rfl ?_)
 refine xB (fun (zz:Nat)=>⟨(.junk :: .junk :: .one (.ptr 0 0 0 0) :: .one (.ptr 1 0 0 0) :: .junk :: .junk :: aB (OG m n) :: aI (lastN n zz) :: J8 (.junk :: .one (.c (jB 1 fIs n)) :: aI (UA n).length :: aI zz :: L8 (J8 (.junk :: .junk :: .junk :: [])))),[⟨0,26,3,[[.c (jB 1 fW m.vars),.c (vr m.cost),.c (jB 6 DD m.rows)]],SA,SA⟩,⟨0,29,1,[[.c (jB 1 fIs n)]],SA,SA⟩]⟩) (fun (zz:Nat)=>zz <= (UA n).length /\ OL n zz = SA) (fun (zz:Nat)=>(UA n).length - zz) (0) ?hI1 (TB.headA (fN 2) [TA,TA,SA,SA,TA,TA,SA,SA,TA,TA,TA,TA,TA,TA,TA,TA,TA,SA,SA,SA]) ?hB1
 ·exact ⟨fN _,rfl⟩
 rintro j ⟨hj,hs⟩
 by_cases hjl:j = (UA n).length
 ·rw [hjl] at hs
  unfold bH
  rw [hs,Bool.true_and]
  cases hb:OG m n with
  | true =>
   repeat (first | (with_reducible first | refine W8 ?_ | refine VA rfl ?_) | ((with_reducible refine X8 fun K hK=>?_);simp (disch:=first | omega | simp only [sB];omega) only [qB,reduceIte,reduceCtorEq,iT,nA,nS,nM,iA,iS,iM,iN,fU,hjl];subst hK) | refine KB (hmr) rfl rfl rfl ?_)
   exact ⟨_,rfl,rfl⟩
  | false =>
   repeat (first | (with_reducible first | refine W8 ?_ | refine VA rfl ?_) | ((with_reducible refine X8 fun K hK=>?_);simp (disch:=first | omega | simp only [sB];omega) only [qB,reduceIte,reduceCtorEq,iT,nA,nS,nM,iA,iS,iM,iN,fU,hjl];subst hK))
   exact ⟨_,rfl,rfl⟩
 ·have hlt:j < (UA n).length:=by omega
  have hbl:=qI hlt
  have hlen:CF n j = (UA (UA n)[j]).length:=by unfold CF;rw [hbl]
  have hso:=sorted_C (UA n)[j] (by have:=hn.len j;omega)
  have hno:gT n j = TA -> bH m n = TA:=fun h=>by unfold bH;rw [blksTo_false hlt h];rfl
  have hok:gT n j = (decide (CF n j ≠ 0) && (decide (lastN n j < NG n j 0) && xT (UA (UA n)[j]))):=by unfold gT;rw [hbl]
  by_cases h0:(UA (UA n)[j]).length = 0
  ·rw [hno (by rw [hok,hlen,h0];simp)]
   repeat (first | (with_reducible first | refine W8 ?_ | refine VA rfl ?_) | ((with_reducible refine X8 fun K hK=>?_);simp (disch:=first | omega | simp only [sB];omega) only [qB,reduceIte,reduceCtorEq,iT,nA,nS,nM,iA,iS,iM,iN,fU,fIs,h0];subst hK))
   exact ⟨_,rfl,rfl⟩
  ·have hp0:0 < (UA (UA n)[j]).length:=by omega
   have hk:(UA (UA n)[j])[0] = NG n j 0:=by unfold NG;rw [hbl,bA,aA hp0];rfl
   have h0':¬ ((UA (UA n)[j]).length:Int) = 0:=by omega
   rw [hlen,decide_eq_true h0,Bool.true_and] at hok
   by_cases h1:NG n j 0 <= lastN n j
   ·rw [hno (by rw [hok,decide_eq_false (Int.not_lt.2 h1)];rfl)]
    repeat (first | (with_reducible first | refine W8 ?_ | refine VA rfl ?_) | ((with_reducible refine X8 fun K hK=>?_);simp (disch:=first | omega | simp only [sB];omega) only [qB,reduceIte,reduceCtorEq,iT,nA,nS,nM,iA,iS,iM,iN,fU,fIs,fI,hk,h0'];subst hK))
    exact ⟨_,rfl,rfl⟩
   ·rw [decide_eq_true (Int.not_le.1 h1),Bool.true_and] at hok
    cases h2:xT (UA (UA n)[j]) with
    | false =>
     rw [h2] at hso hok
     rw [hno hok]
     repeat (first | (with_reducible first | refine W8 ?_ | refine VA rfl ?_) | ((with_reducible refine X8 fun K hK=>?_);simp (disch:=first | omega | simp only [sB];omega) only [qB,reduceIte,reduceCtorEq,iT,nA,nS,nM,iA,iS,iM,iN,fU,fIs,fI,hk,h0'];subst hK) | refine UJ (hso) ?_)
     exact ⟨_,rfl,rfl⟩
    | true =>
     rw [h2] at hso hok
     repeat (first | (with_reducible first | refine W8 ?_ | refine VA rfl ?_) | ((with_reducible refine X8 fun K hK=>?_);simp (disch:=first | omega | simp only [sB];omega) only [qB,reduceIte,reduceCtorEq,iT,nA,nS,nM,iA,iS,iM,iN,fU,fIs,fI,hk,h0'];subst hK) | refine UJ (hso) ?_)
     refine ⟨(j + 1),?hI2,?hM2,TB.headA (fN 2) [TA,TA,SA,SA,TA,TA,SA,SA,TA,TA,TA,TA,TA,TA,TA,TA,TA,SA,SA,SA]⟩
     ·exact ⟨hlt,by rw [blksTo_succ,hs,hok];rfl⟩
     ·show (UA n).length - (j + 1) < (UA n).length - j;omega
open Go.Maps (Keyed int_keyed keyOf_int_mk IsMap)
theorem UR (w:World) (a:Addr) (u:Value):w.grownBy (w.setCell a u) (PA a.block) :=
 ⟨rfl,rfl,rfl,by simp [World.setCell],fun k hk hne=>by rw [RowKit.Below.heap_setCell _ _ _ _ (fun e=>hne (by rw [e]))]⟩
def atL (L:List (Int × Int)) (left:Lit -> Bool) (k:Nat):Int:=match L.lookup (k:Int) with
 | some v=>if left (.int .i64 (k:Int)) then -1 else v
 | none=>-1
def rN (L:List (Int × Int)) (k:Nat):Int:=(L.lookup (k:Int)).getD (-1)
theorem atL_end {L:List (Int × Int)} {left:Lit -> Bool} (h:∀ l,left l = TA) (k:Nat):atL L left k = rN L k:=by
 unfold atL rN
 cases L.lookup (k:Int) with
 | none=>rfl
 | some v=>rw [h];rfl
theorem RN (x z:Int):(Lit.int .i64 z).sameKey (.int .i64 x) = decide (z = x):=by
 by_cases h:z = x
 ·subst h;simp [Lit.sameKey]
 ·rw [decide_eq_false h];exact Maps.sameKey_ne (fun e=>h (by injection e))
theorem atL_step {L:List (Int × Int)} {left:Lit -> Bool} {x c:Int} (h:L.lookup x = PA c) (k:Nat) :
  atL L (fun z=>left z && !z.sameKey (.int .i64 x)) k = if (k:Int) = x then c else atL L left k:=by
 unfold atL
 by_cases hk:(k:Int) = x
 ·rw [hk,h,if_pos rfl]
  simp [RN]
 ·rw [if_neg hk]
  cases L.lookup (k:Int) with
  | none=>rfl
  | some v=>simp [RN,hk]
def HomeP (rB:Bool) (nv:Nat) (L:List (Int × Int)) (w:World) (e:Ending) (w':World):Prop :=
 (rB = TA -> e = .returned (.slice QA 0 0)) /\ (rB = SA -> ∃ g,e = .returned (.slice (PA ⟨g,0,QA⟩) nv nv) /\ w.heap.size <= g /\ g < w'.heap.size /\
       ∀ k,k < nv -> w'.cell? ⟨g,k,QA⟩ = PA (.int .i64 (rN L k))) /\ Below w.heap.size w w'
set_option maxRecDepth 1000000 in
theorem home_walk (v0 v1:Value) (av ac ar ab:Option Addr) (kv nc kc nr kr nv nb kb:Nat) (key:Nat -> Nat -> Int) (len:Nat -> Nat) (rB:Bool) (w:World) (h0:v0 = .agg #[.slice av nv kv,.slice ac nc kc,.slice ar nr kr]) (h1:v1 = .agg #[.slice ab nb kb])
  (hnv:nv <= 50) (hlt:rB = SA -> ∀ x c,(RF key len nb).lookup x = PA c -> 0 <= x /\ x < nv) (hok:rB = SA -> wM nv key len nb = SA)
  (hR:∀ W,Below w.heap.size w W -> Calls Tryz.prog 12 #[v0,v1] W fun e W'=>e = .returned (.bool rB) /\ Below W.heap.size W W')
  (hH:∀ W,Below w.heap.size w W -> Calls Tryz.prog 39 #[v0,v1] W (SL nv nb key len W)) :
  Calls Tryz.prog 42 #[v0,v1] w (HomeP rB nv (RF key len nb) w):=by
 subst h0
 subst h1
 go_enter Tryz.func42,Tryz.ntmps42
 go_wp2_with fail
 have hbA:∀ o1 o2:Obj,Below w.heap.size w ((w.alloc o1).alloc o2):=fun o1 o2=>((Below.refl _ _).alloc (EA _) _).alloc (by simp) _
 go_call (hR _ (hbA _ _)) as e w1 ⟨he,hb1⟩
 subst he
 have hbw1:Below w.heap.size w w1:=(hbA _ _).trans (hb1.mono (by simp;omega))
 generalize hw0:(w.alloc (Obj.cells #[Value.slice av nv kv,Value.slice ac nc kc,Value.slice ar nr kr] 26)).alloc (Obj.cells #[Value.slice ab nb kb] 29) = w0 at hb1
 have hs0:w0.heap.size = w.heap.size + 2:=by rw [<- hw0];simp
 have c0:w0.cell? ⟨w.heap.size,0,QA⟩ = PA (.slice av nv kv):=by rw [<- hw0];simp [go_sem]
 have c1:w0.cell? ⟨w.heap.size,1,QA⟩ = PA (.slice ac nc kc):=by rw [<- hw0];simp [go_sem]
 have c2:w0.cell? ⟨w.heap.size,2,QA⟩ = PA (.slice ar nr kr):=by rw [<- hw0];simp [go_sem]
 have c3:w0.cell? ⟨w.heap.size + 1,0,QA⟩ = PA (.slice ab nb kb):=by rw [<- hw0];simp [go_sem]
 have hl0:w.heap.size < w0.heap.size:=by omega
 have hl1:w.heap.size + 1 < w0.heap.size:=by omega
 cases rB with
 | false =>
  go_wp2_with fail
  go_ret
  unfold HomeP
  exact ⟨fun _=>rfl,fun h=>(by cases h),hbw1⟩
 | true =>
  have hokt:=hok rfl
  have hlt2:=hlt rfl
  have d0:=(hb1.cell (p:=⟨w.heap.size,0,QA⟩) hl0).trans c0
  have hls:w.heap.size < w1.heap.size:=by have:=hb1.size;omega
  go_wp2_with fail
  have hrp:=repeat_walk w1.heap.size 0 nv (w1.alloc (Obj.cells #[Value.int .i64 (-1)] 3)) hnv (by simp) (by simp [go_sem])
  go_call hrp as e w2 ⟨g,he,hgB,hgc,hb2⟩
  subst he
  have hbA1:=hb1.alloc hb1.size (Obj.cells #[Value.int .i64 (-1)] 3)
  have hb02:Below w0.heap.size w0 w2:=hbA1.trans (hb2.mono hbA1.size)
  have hbw2:Below w.heap.size w w2:=by
   have h:=hbw1.alloc hbw1.size (Obj.cells #[Value.int .i64 (-1)] 3)
   exact h.trans (hb2.mono h.size)
  have e0:=(hb02.cell (p:=⟨w.heap.size,0,QA⟩) hl0).trans c0
  have e1:=(hb02.cell (p:=⟨w.heap.size,1,QA⟩) hl0).trans c1
  have e2:=(hb02.cell (p:=⟨w.heap.size,2,QA⟩) hl0).trans c2
  have e3:=(hb02.cell (p:=⟨w.heap.size + 1,0,QA⟩) hl1).trans c3
  have hgB':w1.heap.size + 1 <= g:=by simpa using hgB
  have hgl:g < w2.heap.size:=(Array.getElem?_eq_some_iff.1 hgc).1
  go_wp2_with fail
  go_call (hH w2 hbw2) as e w3 ⟨hh1,hh2,hb3⟩
  obtain ⟨b,he,hm,hbb⟩:=hh1 hokt
  subst he
  have hbw3:Below w.heap.size w w3:=hbw2.trans (hb3.mono hbw2.size)
  have hg3:w3.heap[g]? = PA (.cells (jA nv (Value.int .i64 (-1))).toArray 3 (0,0)):=by rw [hb3.block g hgl];exact hgc
  obtain ⟨D,hown,hmap,hat⟩:=hm
  have hgb:g ≠ b:=by omega
  go_wp2_with (first | (at_range;refine wpList_range_own _ rfl _ 86 rfl 3 3 keyH Tryz.underlying86 _ b _ _ rfl hown ?_;intro w4 hrg0 hg0 hs0) | fail)
  go_frame
  have hb4:Below w.heap.size w w4:=hbw3.grown hg0 hbw3.size (fun k hk=>by cases hk)
  have hgl3:g < w3.heap.size:=(Array.getElem?_eq_some_iff.1 hg3).1
  have hg4:w4.heap[g]? = PA (.cells (jA nv (Value.int .i64 (-1))).toArray 3 (0,0)):=by rw [hg0.block g hgl3 (by simp)];exact hg3
  go_loopw [27] (fun _ wr=>∃ (left:Lit -> Bool) (cnt:Nat),wr.ranges Tryz.prog 3 (plainElem Tryz.prog 3) b w3.heap.size (RF key len nb).length D left cnt /\ Below w.heap.size w wr /\ g < wr.heap.size /\ ∀ k,k < nv -> wr.cell? ⟨g,k,QA⟩ = PA (.int .i64 (atL (RF key len nb) left k)) /\ wr.frozen? ⟨g,k,QA⟩ = TA) (fun _ wr=>wr.rangeLeft b w3.heap.size)
  case atStart =>
   refine ⟨_,_,hrg0,hb4,by omega,fun k hk=>⟨?_,?_⟩⟩
   ·have hl:atL (RF key len nb) (Maps.has D) k = -1:=by
     unfold atL
     cases hq:(RF key len nb).lookup (k:Int) with
     | none=>rfl
     | some v =>
      have:=Maps.has_true_of_atKey (D:=D) (k:=.int .i64 (k:Int)) (y:=.lit (.int .i64 v)) (fun zd=>by rw [hat,hq])
      rw [this];rfl
    rw [hl]
    simp only [World.cell?,hg4]
    simp [hk]
   ·simp [World.frozen?,hg4]
  case round =>
   obtain ⟨left,cnt,hrg,hbr,hgr,hcell⟩:=hrel
   go_wp2_with (first
    | (at_next;refine wpList_next_ranges_ii _ rfl _ rfl 3 3 .i64 .i64 keyH Tryz.underlying3 Tryz.underlying3 b w3.heap.size _ _ _ _ rfl hrg ?_ ?_)
    | fail)
   ·intro hc0 hl0'
    go_wp2_with fail
    go_ret
    unfold HomeP
    refine ⟨fun h=>(by cases h),fun _=>⟨g,rfl,?_,hgr,fun k hk=>?_⟩,hbr⟩
    ·have:=hbw1.size;omega
    ·rw [(hcell k hk).1,atL_end hl0']
   ·intro x c w5 cnt1 hwx hwc hlx hatx hrg1 hltc hg5 hs5 hen
    have hlk:(RF key len nb).lookup x = PA c:=by
     have h2:=hatx .nil
     try rw [hat] at h2
     cases hq:(RF key len nb).lookup x with
     | none=>rw [hq] at h2;cases h2
     | some v=>rw [hq] at h2;cases h2;rfl
    obtain ⟨hx0,hxn⟩:=hlt2 x c hlk
    obtain ⟨x,rfl⟩:∃ q:Nat,x = (q:Int):=⟨x.toNat,by omega⟩
    have hxn':x < nv:=by omega
    have hgw3:g ≠ w3.heap.size:=by omega
    have hcell5:∀ k,k < nv -> w5.cell? ⟨g,k,QA⟩ = PA (.int .i64 (atL (RF key len nb) left k)) /\ w5.frozen? ⟨g,k,QA⟩ = TA:=fun k hk=>by
     have hblk:=hg5.block g hgr (fun e=>hgw3 (Option.some.inj e))
     rw [World.cell?_of_block (w:=wr) (a:=⟨g,k,QA⟩) hblk,World.frozen?_of_block (w:=wr) (a:=⟨g,k,QA⟩) hblk]
     exact hcell k hk
    have hk5:=(hcell5 x hxn').1
    have hf5:=(hcell5 x hxn').2
    go_wp2_with fail
    have hbb':b ≠ g:=fun e=>hgb e.symm
    have hgs:=UR w5 ⟨g,x,QA⟩ (.int .i64 c)
    have hrg2:=hrg1.kept hgs (fun e=>hbb' (Option.some.inj e)) (fun e=>hgw3 (Option.some.inj e).symm)
    refine ⟨⟨_,cnt1,hrg2,?_,HA (by rw [hs5];exact hgr) hgs.size,fun k hk=>⟨?_,?_⟩⟩,?_⟩
    ·have hb5:Below w.heap.size w w5:=hbr.grown hg5 hbr.size (fun k hk=>by cases hk;have:=hbw3.size;omega)
     exact hb5.grown hgs hb5.size (fun k hk=>by cases hk;exact (show w.heap.size <= g by have:=hbw1.size;omega))
    ·rw [atL_step hlk]
     by_cases hkx:k = x
     ·rw [hkx,if_pos rfl]
      exact World.cell?_setCell_same _ _ _ hk5
     ·rw [if_neg (by omega),World.cell?_setCell_other _ _ _ _ (fun e=>hkx (by injection e with _ e2 _;exact e2.symm))]
      exact (hcell5 k hk).1
    ·rw [World.frozen?_setCell]
     exact (hcell5 k hk).2
    ·rw [hrg2.left_eq,hrg.left_eq];exact hltc
theorem lookup_mem {L:List (Int × Int)} {x c:Int} (h:L.lookup x = PA c):(x,c) ∈ L:=by
 induction L with
 | nil=>cases h
 | cons p r ih =>
  obtain ⟨a,b⟩:=p
  rw [List.lookup_cons] at h
  by_cases e:x = a
  ·subst e
   rw [beq_self_eq_true] at h
   cases h
   exact List.mem_cons_self
  ·rw [show (x == a) = TA by simpa using e] at h
   exact List.mem_cons_of_mem _ (ih h)
theorem hmIn_mem {key:Nat -> Nat -> Int} {j:Nat} {base:List (Int × Int)}:∀ {i:Nat} {p:Int × Int},p ∈ pK key j base i -> p ∈ base \/ ∃ a,a < i /\ p = (key j a,(j:Int))
 | 0,p,h=>.inl h
 | i + 1,p,h=>by
  rcases List.mem_cons.1 h with h | h
  ·exact .inr ⟨i,Nat.lt_succ_self _,h⟩
  ·rcases hmIn_mem h with h | ⟨a,ha,e⟩
   ·exact .inl h
   ·exact .inr ⟨a,by omega,e⟩
theorem hmTo_mem {key:Nat -> Nat -> Int} {len:Nat -> Nat}:∀ {j:Nat} {p:Int × Int},p ∈ RF key len j -> ∃ b a,b < j /\ a < len b /\ p = (key b a,(b:Int))
 | 0,p,h=>by cases h
 | j + 1,p,h=>by
  rcases hmIn_mem h with h | ⟨a,ha,e⟩
  ·obtain ⟨b,a,hb,ha,e⟩:=hmTo_mem h
   exact ⟨b,a,by omega,ha,e⟩
  ·exact ⟨j,a,by omega,ha,e⟩
theorem okTo_at {nv:Nat} {key:Nat -> Nat -> Int} {len:Nat -> Nat} {n b a:Nat} (h:wM nv key len n = SA) (hb:b < n) (ha:a < len b):okK nv (pK key b (RF key len b) a) (key b a) = SA:=by
 have h1:=List.all_eq_true.1 h b (zA.2 hb)
 exact List.all_eq_true.1 h1 a (zA.2 ha)
theorem hm_range {nv:Nat} {key:Nat -> Nat -> Int} {len:Nat -> Nat} {n:Nat} (h:wM nv key len n = SA) {x c:Int} (hx:(RF key len n).lookup x = PA c):(0 <= x /\ x < nv) /\ ∃ b a,b < n /\ a < len b /\ x = key b a /\ c = (b:Int):=by
 obtain ⟨b,a,hb,ha,e⟩:=hmTo_mem (lookup_mem hx)
 have h1:=okTo_at h hb ha
 unfold okK at h1
 simp only [JA,decide_eq_true_eq] at h1
 cases e
 exact ⟨⟨h1.1,h1.2.1⟩,b,a,hb,ha,rfl,rfl⟩
def mapN (n:NB):List (Int × Int):=RF (NG n) (CF n) (UA n).length
def OI (m:MD) (n:NB):List Int:=(List.range (UA m.vars).length).map (rN (mapN n))
def homeV (m:MD) (n:NB):Option (List Int):=if bH m n then PA (OI m n) else QA
theorem home_C (m:MD) (n:NB) (hn:FitsN n) (hv:(UA m.vars).length <= 50) (hw:∀ s ∈ UA m.vars,s.length <= 1000000) (hr:∀ r ∈ UA m.rows,r.name.length <= 1000000):YA Tryz.prog 42 [aMd m,aNo n] (.ret (QL (homeV m n))):=by
 refine ⟨fun a w=>Tryz.call42 a w,fun w M vals hM hp=>?_⟩
 have hmono:∀ {W:World},Below w.heap.size w W -> ((∀ g,M g -> g < W.heap.size) /\ GB M W.heap.size W):=fun hb=>⟨fun g hg=>HA (hM.1 g hg) hb.size,(hM.2.below hb).mono hb.size⟩
 obtain ⟨av,ac,ar,ab,kv,nc,kc,nr,kr,kb,p,cap,rfl,h1,h2,h3,h4⟩:=FQ hp
 have hpW:∀ {W:World},Below w.heap.size w W -> PW (AVR W M [] bE) [aMd m,aNo n] [.agg #[.slice av (UA m.vars).length kv,.slice ac nc kc,.slice ar nr kr],.agg #[.slice ab (UA n).length kb]]:=fun {W} hb =>
  hp.mono (fun c v h=>h.tr ⟨fun g _ h=>hb.block g h,fun g h _=>h,hb.size,fun b k hk=>by simp at hk⟩)
 refine (home_walk _ _ av ac ar ab kv nc kc nr kr (UA m.vars).length (UA n).length kb (NG n) (CF n) (bH m n) w rfl rfl hv (fun hB x c hx=>?_) (fun hB=>?_) (fun W hb=>?_) (fun W hb=>?_)).mono fun e w' ⟨e1,e2,e3⟩=>?_
 ·unfold bH OG at hB
  simp only [JA] at hB
  exact (hm_range hB.2.1 hx).1
 ·unfold bH OG at hB
  simp only [JA] at hB
  exact hB.2.1
 ·refine ((jK m n hn hw hr).2 W M _ (hmono hb) (hpW hb)).mono ?_
  rintro e W' ⟨v,rfl,hb2,hx⟩
  obtain rfl:v = .bool (bH m n):=hx.val
  exact ⟨rfl,hb2⟩
 ·exact ZN m n hn (hpW hb)
 ·unfold homeV
  cases hB:bH m n with
  | false =>
   obtain rfl:=e1 hB
   exact ⟨_,rfl,e3,.one _ _ (.c _ _ (.val _ rfl))⟩
  | true =>
   obtain ⟨g,rfl,hg1,hg2,hc⟩:=e2 hB
   refine ⟨_,rfl,e3,.one _ _ (.c _ _ ?_)⟩
   show CR w' M (.sl 1 ((OI m n).map fI)) _
   have hln:((OI m n).map fI).length = (UA m.vars).length:=by unfold OI;simp
   have hat:∀ (i:Nat) (r:List CV),((OI m n).map fI)[i]? = PA r -> r = fI (rN (mapN n) i) /\ i < (UA m.vars).length:=fun i r hi=>by
    have hlt:=(dA.1 hi).1
    rw [hln] at hlt
    unfold OI at hi
    simp [hlt] at hi
    exact ⟨hi.symm,hlt⟩
   have:=CR.sl (w:=w') (bad:=M) 1 ((OI m n).map fI) g 0 (UA m.vars).length (fun i j=>.int .i64 (rN (mapN n) i)) (by omega) (fun hm=>by have:=hM.1 g hm;omega) hg2
    (fun i r hi=>by rw [(hat i r hi).1];rfl)
    (fun i j hi hj=>by
     rw [hln] at hi
     have:j = 0:=by omega
     subst this
     have:=hc i hi
     simpa [mapN] using this)
    (fun i j r x hi hj=>by
     rw [(hat i r hi).1] at hj
     match j,hj with
     | 0,hj=>cases hj;exact .val _ rfl)
   rw [hln] at this
   exact this
def oM (hl:List Int) (c:VV):Nat -> Int × Bool × Bool
 | 0=>(-1,TA,SA)
 | k + 1=>if jE c k = 0 then oM hl c k else (hl.getD k 0,SA,(oM hl c k).2.2 && (!(oM hl c k).2.1 || decide (hl.getD k 0 = (oM hl c k).1)))
def rowHm (hl:List Int) (c:VV):Int:=if (oM hl c (UA c).length).2.2 then (oM hl c (UA c).length).1 else -1
def iK (m:MD) (n:NB):List Int:=(UA m.rows).map fun r=>rowHm (OI m n) r.coef
def rowsV (m:MD) (n:NB):Option (List Int):=if bH m n then aC (iK m n) else QA
theorem encB_fI1 (out:List Int) (x:Int):wB fI out ++ [[Cell.c (.val (.int .i64 x))]] = wB fI (out ++ [x]):=by rw [<- XC];rfl
theorem md_coef {m:MD} (h:VD m = SA) {i:Nat} (hi:i < (UA m.rows).length):(UA (UA m.rows)[i].coef).length = (UA m.vars).length /\ -1 <= (UA m.rows)[i].rel /\ (UA m.rows)[i].rel <= 1:=by
 unfold VD at h
 simp only [JA,Bool.not_eq_true'] at h
 have h1:=h.2.2.2.2.2
 have:=xG h1 hi
 unfold HH mM at this
 rw [FD hi] at this
 simp only [Bool.not_eq_false',JA,decide_eq_true_eq] at this
 omega
abbrev c14_k1:CC:=(.seq (.reg [(mV 64 6),(mV 4 64)]) .ret)
abbrev c14_k2:CC:=(.reg [(bC 63 .add 24 1),(mV 24 63)])
abbrev c14_k3:CC:=(.seq (.seq (.reg [(mV 57 11),(uN 58 57)]) (.cond (tP 58) (.reg [(mI 9 (-1))]) .skip)) (.reg [(mV 59 6),(mV 60 9),(oD 61 (.mkrow 3 1 [(tP 60)])),(oD 62 (.append 3 1 8 (tP 59) (tP 61))),(mV 6 62)]))
abbrev c14_b1:CC:=(.seq (.reg [(bB 32 .lss 31 30)]) (.seq (.cond (tP 32) .skip (.exit 2)) (.seq (.block 3 (.seq (.reg [(mV 33 31),(xA 34 3 29 31),(lT 35 3 34),(oD 13 (.new 48 [(.bool TA),(.slice QA 0 0),(.slice QA 0 0)])),(mV 12 33),(sT 3 13 35)]) (.seq (.seq (.reg [(lT 36 3 13),(oD 37 (.callf (.func 27) [(tP 36)])),(bC 38 .eql 37 0)]) (.cond (tP 38) (.exit 3) .skip)) (.seq (.reg [(mV 39 11),(mV 40 39),(gM 41 40 SA 10),(oG 42 40 SA (.un .not (tP 41))),(gM 43 40 SA 42),(gM 44 43 TA 5),(gM 45 43 TA 12),(oG 46 43 TA (.iaddr 1 QA (tP 44) (tP 45))),(oG 47 43 TA (.load 1 TA (tP 46))),(gM 48 43 TA 9),(oG 49 43 TA (.bin .eql (tP 47) (tP 48))),(oG 50 40 SA (.pick (tP 43) (.const (.bool SA)) (tP 49))),(pF 51 40 50),(mV 11 51)]) (.reg [(mV 52 5),(mV 53 12),(xA 54 1 52 53),(lF 55 1 54),(mV 9 55),(mB 10 SA)]))))) (.reg [(bC 56 .add 31 1),(mV 31 56)]))))
abbrev c14_b2:CC:=(.seq (.reg [(bB 25 .lss 24 23)]) (.seq (.cond (tP 25) .skip (.exit 0)) (.seq (.block 1 (.seq (.reg [(xA 26 6 22 24),(lT 27 6 26),(oD 8 (.new 50 [(.string ⟨#[]⟩),(.slice QA 0 0),(.int .i64 (0)),(.bool TA),(.slice QA 0 0),(.slice QA 0 0)])),(sT 6 8 27)]) (.seq (.reg [(mI 9 (-1)),(mB 10 TA),(mB 11 SA)]) (.seq (.seq (.reg [(fA 28 1 8),(lF 29 1 28),(nL 30 29),(mI 31 0)]) (.block 2 (.loop c14_b1))) c14_k3)))) c14_k2)))
abbrev c14:CC:=(.seq (.reg [(oD 2 (.box 26 (tP 0))),(oD 3 (.box 29 (tP 1))),(oD 4 (.mv nC))]) (.seq (.reg [(lT 14 3 2),(lT 15 1 3),(oD 16 (.callf (.func 42) [(tP 14),(tP 15)])),(mV 5 16)]) (.seq (.seq (.reg [(lT 17 3 2),(lT 18 1 3),(oD 19 (.callf (.func 12) [(tP 17),(tP 18)])),(uN 20 19)]) (.cond (tP 20) (.seq (.reg [(oD 4 (.mv nC))]) .ret) .skip)) (.seq (.reg [(oD 6 (.mv nC))]) (.seq (.seq (.reg [(fA 21 2 2),(lF 22 1 21),(nL 23 22),(mI 24 0)]) (.block 0 (.loop c14_b2))) c14_k1)))))
theorem cc14:ZA Tryz.prog [] (Tryz.f14.body.getD .skip) = PA c14:=by kernel_rfl
theorem body14:Tryz.f14.body = PA (Tryz.f14.body.getD .skip):=rfl
theorem rows9_no (m:MD) (n:NB) (hn:FitsN n) (hv:(UA m.vars).length <= 50) (hw:∀ s ∈ UA m.vars,s.length <= 1000000) (hr:∀ r ∈ UA m.rows,r.name.length <= 1000000) (hb:bH m n = TA):YA Tryz.prog 14 [aMd m,aNo n] (.ret (QL QA)):=by
 have hho:=home_C m n hn hv hw hr
 have hri:=jK m n hn hw hr
 rw [hb] at hri
 refine WA (rs:=[(RV.tmp 4)]) Tryz.func14 (fun a w=>Tryz.call14 a w) body14 cc14 (by kernel_rfl) ?_
 rw [Tryz.ntmps14]
 simp only [pC,nA,nS]
 repeat (first | (with_reducible first | refine W8 ?_ | refine VA rfl ?_) | ((with_reducible refine X8 fun K hK=>?_);simp (disch:=first | omega | simp only [sB];omega) only [qB,reduceIte,reduceCtorEq,iT,nA,nS,nM,iA,iS,iM,iN,fU];subst hK) | refine KB (hho) rfl rfl rfl ?_ | refine KB (hri) rfl rfl rfl ?_)
 exact ⟨_,rfl,rfl⟩
theorem rows9_yes (m:MD) (n:NB) (L:Nat) (hn:FitsN n) (hv:(UA m.vars).length <= 50) (hw:∀ s ∈ UA m.vars,s.length <= 1000000) (hr:∀ r ∈ UA m.rows,r.name.length <= 1000000) (hf:∀ r ∈ UA m.rows,∀ x ∈ UA r.coef,vD x L) (hL:L <= 1000000) (hb:bH m n = SA):YA Tryz.prog 14 [aMd m,aNo n] (.ret (QL (aC (iK m n)))):=by
 have hmd:VD m = SA:=by
  unfold bH at hb
  simp only [JA] at hb
  exact hb.2.2
 have hho:=home_C m n hn hv hw hr
 have hri:=jK m n hn hw hr
 have hhl:(OI m n).length = (UA m.vars).length:=by unfold OI;simp
 have hrl:(UA m.rows).length <= 60:=by
  unfold VD at hmd
  simp only [JA,decide_eq_true_eq] at hmd
  exact hmd.2.2.1
 have hcf:=fun i (hi:i < (UA m.rows).length)=>md_coef hmd hi
 have hhv:homeV m n = PA (OI m n):=by unfold homeV;rw [hb];rfl
 have hrs:iK m n = (UA m.rows).map fun r=>rowHm (OI m n) r.coef:=rfl
 rw [hhv] at hho
 rw [hb] at hri
 generalize hH:OI m n = H at *
 generalize hR:iK m n = R at *
 refine YA.fresh_rowO (ty:=3) (l:=R) ?_
 refine WA (rs:=[(RV.tmp 4)]) Tryz.func14 (fun a w=>Tryz.call14 a w) body14 cc14 (by kernel_rfl) ?_
 rw [Tryz.ntmps14]
 simp only [pC,nA,nS]
 repeat (first | (with_reducible first | refine W8 ?_ | refine VA rfl ?_) | ((with_reducible refine X8 fun K hK=>?_);simp (disch:=first | omega | simp only [sB];omega) only [qB,reduceIte,reduceCtorEq,iT,nA,nS,nM,iA,iS,iM,iN,fU];subst hK) | refine KB (hho) rfl rfl rfl ?_ | refine KB (hri) rfl rfl rfl ?_)
 refine uD.fgt ?_ (TB.openNil (i:=6) rfl 3 1)
 simp only [lA,mA,pA,oA,qA,rA,nA]
 refine xB (fun (zz:Nat × (List Int) × Nat × Bool)=>⟨(.junk :: .junk :: .one (.ptr 0 0 0 0) :: .one (.ptr 1 0 0 0) :: .junk :: QL (PA H) :: .one (.own 2 zz.2.2.1) :: J8 (J4 (.junk :: .junk :: .junk :: .one (.c (jB 6 DD m.rows)) :: aI (UA m.rows).length :: aI zz.1 :: K8 (J8 ([]))))),[⟨0,26,3,[[.c (jB 1 fW m.vars),.c (vr m.cost),.c (jB 6 DD m.rows)]],SA,SA⟩,⟨0,29,1,[[.c (jB 1 fIs n)]],SA,SA⟩,⟨zz.2.2.1,3,1,wB fI zz.2.1,SA,zz.2.2.2⟩]⟩) (fun (zz:Nat × (List Int) × Nat × Bool)=>zz.1 <= (UA m.rows).length /\ zz.2.1 = R.take zz.1 /\ zz.2.2.2 = !zz.2.1.isEmpty) (fun (zz:Nat × (List Int) × Nat × Bool)=>(UA m.rows).length - zz.1) (0,[],0,TA) ?hI1 (TB.headN (fN 3) [TA,TA,SA,SA,TA,SA,SA,TA,TA,TA,TA,TA,TA,TA,TA,TA,TA,TA,TA,TA,TA,TA,SA,SA,SA]) ?hB1
 ·dsimp only;exact ⟨fN _,rfl,rfl⟩
 rintro ⟨i,out,u,nn⟩ ⟨hi,ho,hnn⟩
 dsimp only at hi ho hnn
 have hRl:R.length = (UA m.rows).length:=by rw [hrs,eA]
 by_cases him:i = (UA m.rows).length
 ·repeat (first | (with_reducible first | refine W8 ?_ | refine VA rfl ?_) | ((with_reducible refine X8 fun K hK=>?_);simp (disch:=first | omega | simp only [sB];omega) only [qB,reduceIte,reduceCtorEq,iT,nA,nS,nM,iA,iS,iM,iN,fU,him];subst hK))
  refine ⟨_,rfl,?_⟩
  have ho2:out = R:=by rw [ho,him,<- hRl,List.take_length]
  rw [<- ho2,<- hnn]
  exact JD.fresh_enc rfl
 have hlt:i < (UA m.rows).length:=by omega
 obtain ⟨hcl,_⟩:=hcf i hlt
 have hfi:=hf _ (gA hlt)
 have hRi:R.take (i + 1) = R.take i ++ [rowHm H (UA m.rows)[i].coef]:=by
  rw [List.take_succ_eq_append_getElem (by omega)]
  congr 2
  simp [hrs]
 have hol:out.length = i:=by rw [ho,List.length_take];omega
 generalize hrw:(UA m.rows)[i] = rw at *
 repeat (first | (with_reducible first | refine W8 ?_ | refine VA rfl ?_) | ((with_reducible refine X8 fun K hK=>?_);simp (disch:=first | omega | simp only [sB];omega) only [qB,reduceIte,reduceCtorEq,iT,nA,nS,nM,iA,iS,iM,iN,fU,DD,hrw];subst hK))
 refine xB (fun (zz:Nat × Int × Bool × Bool)=>⟨(.junk :: .junk :: .one (.ptr 0 0 0 0) :: .one (.ptr 1 0 0 0) :: .junk :: QL (PA H) :: .one (.own 2 u) :: .junk :: .one (.ptr 3 0 0 0) :: aI zz.2.1 :: aB zz.2.2.1 :: aB zz.2.2.2 :: J8 (.junk :: .junk :: .one (.c (jB 6 DD m.rows)) :: aI (UA m.rows).length :: aI i :: J4 (aV rw.coef :: aI (UA rw.coef).length :: aI zz.1 :: K8 (.junk :: [])))),[⟨0,26,3,[[.c (jB 1 fW m.vars),.c (vr m.cost),.c (jB 6 DD m.rows)]],SA,SA⟩,⟨0,29,1,[[.c (jB 1 fIs n)]],SA,SA⟩,⟨u,3,1,wB fI out,SA,nn⟩,⟨0,50,6,[[.c (.str rw.name),.c (vr rw.coef),.c (.val (.int .i64 rw.rel)),.c (.val (.bool rw.b.minus)),.c (nr rw.b.size),.c (nr rw.b.den)]],SA,SA⟩]⟩) (fun (zz:Nat × Int × Bool × Bool)=>zz.1 <= (UA rw.coef).length /\ oM H rw.coef zz.1 = (zz.2.1,zz.2.2.1,zz.2.2.2)) (fun (zz:Nat × Int × Bool × Bool)=>(UA rw.coef).length - zz.1) (0,-1,TA,SA) ?hI2 (TB.headA (fN 4) (TA :: TA :: SA :: SA :: TA :: SA :: SA :: TA :: SA :: SA :: SA :: SA :: F8 (TA :: TA :: SA :: SA :: SA :: F4 (SA :: SA :: SA :: [])))) ?hB2
 ·dsimp only;exact ⟨fN _,rfl⟩
 rintro ⟨k,b,sm,on⟩ ⟨hk,hst⟩
 dsimp only at hk hst
 by_cases hkl:k = (UA rw.coef).length
 ·have hrh:rowHm H rw.coef = if on then b else -1:=by unfold rowHm;rw [<- hkl,hst]
  cases on with
  | true =>
   rw [if_pos rfl] at hrh
   rw [hrh] at hRi
   repeat (first | (with_reducible first | refine W8 ?_ | refine VA rfl ?_) | ((with_reducible refine X8 fun K hK=>?_);simp (disch:=first | omega | simp only [sB];omega) only [qB,reduceIte,reduceCtorEq,iT,nA,nS,nM,iA,iS,iM,iN,fU,hkl,encB_fI1];subst hK))
   refine ⟨(i + 1,out ++ [b],u + 1,SA),?hI3,?hM3,TB.headE (fN 3) [TA,TA,SA,SA,TA,SA,SA,TA,TA,TA,TA,TA,TA,TA,TA,TA,TA,TA,TA,TA,TA,TA,SA,SA,SA]⟩
   ·dsimp only;exact ⟨by omega,by rw [hRi,<- ho],by cases out <;> rfl⟩
   ·dsimp only;omega
  | false =>
   rw [if_neg (by simp)] at hrh
   rw [hrh] at hRi
   repeat (first | (with_reducible first | refine W8 ?_ | refine VA rfl ?_) | ((with_reducible refine X8 fun K hK=>?_);simp (disch:=first | omega | simp only [sB];omega) only [qB,reduceIte,reduceCtorEq,iT,nA,nS,nM,iA,iS,iM,iN,fU,hkl,encB_fI1];subst hK))
   refine ⟨(i + 1,out ++ [-1],u + 1,SA),?hI4,?hM4,TB.headE (fN 3) [TA,TA,SA,SA,TA,SA,SA,TA,TA,TA,TA,TA,TA,TA,TA,TA,TA,TA,TA,TA,TA,TA,SA,SA,SA]⟩
   ·dsimp only;exact ⟨by omega,by rw [hRi,<- ho],by cases out <;> rfl⟩
   ·dsimp only;omega
 have hklt:k < (UA rw.coef).length:=by omega
 have hsg:=BG (UA rw.coef)[k] ((hfi _ (gA hklt)).mono (by omega))
 have hz0:=(ZG (UA rw.coef)[k].top).trans (bM (UA rw.coef)[k])
 have hqk:jE rw.coef k = (UA rw.coef)[k].val:=by unfold jE;rw [fE hklt]
 have hkH:k < H.length:=by omega
 have hHk:H.getD k 0 = H[k]:=by rw [bA,aA hkH];rfl
 have hsuc:oM H rw.coef (k + 1) = if (UA rw.coef)[k].val = 0 then (b,sm,on) else (H[k],SA,on && (!sm || decide (H[k] = b))):=by
  show (if jE rw.coef k = 0 then oM H rw.coef k else _) = _
  rw [hst,hqk,hHk]
 by_cases hv0:(UA rw.coef)[k].val = 0
 ·rw [if_pos hv0] at hsuc
  have hs0:=hz0.2 hv0
  rw [hs0] at hsg
  repeat (first | (with_reducible first | refine W8 ?_ | refine VA rfl ?_) | ((with_reducible refine X8 fun K hK=>?_);simp (disch:=first | omega | simp only [sB];omega) only [qB,reduceIte,reduceCtorEq,iT,nA,nS,nM,iA,iS,iM,iN,fU,fR];subst hK) | refine KB (hsg) rfl rfl rfl ?_)
  refine ⟨(k + 1,b,sm,on),?hI5,?hM5,TB.headA (fN 4) (TA :: TA :: SA :: SA :: TA :: SA :: SA :: TA :: SA :: SA :: SA :: SA :: F8 (TA :: TA :: SA :: SA :: SA :: F4 (SA :: SA :: SA :: [])))⟩
  ·dsimp only;exact ⟨hklt,hsuc⟩
  ·dsimp only;omega
 ·rw [if_neg hv0] at hsuc
  have hs0:¬ dE (UA rw.coef)[k].top = 0:=fun e=>hv0 (hz0.1 e)
  generalize dE (UA rw.coef)[k].top = z at *
  cases on with
  | false =>
   repeat (first | (with_reducible first | refine W8 ?_ | refine VA rfl ?_) | ((with_reducible refine X8 fun K hK=>?_);simp (disch:=first | omega | simp only [sB];omega) only [qB,reduceIte,reduceCtorEq,iT,nA,nS,nM,iA,iS,iM,iN,fU,fR,fI];subst hK) | refine KB (hsg) rfl rfl rfl ?_)
   refine ⟨(k + 1,H[k],SA,TA),?hI6,?hM6,TB.headA (fN 4) (TA :: TA :: SA :: SA :: TA :: SA :: SA :: TA :: SA :: SA :: SA :: SA :: F8 (TA :: TA :: SA :: SA :: SA :: F4 (SA :: SA :: SA :: [])))⟩
   ·dsimp only;exact ⟨hklt,hsuc⟩
   ·dsimp only;omega
  | true =>
   cases sm with
   | false =>
    repeat (first | (with_reducible first | refine W8 ?_ | refine VA rfl ?_) | ((with_reducible refine X8 fun K hK=>?_);simp (disch:=first | omega | simp only [sB];omega) only [qB,reduceIte,reduceCtorEq,iT,nA,nS,nM,iA,iS,iM,iN,fU,fR,fI];subst hK) | refine KB (hsg) rfl rfl rfl ?_)
    refine ⟨(k + 1,H[k],SA,SA),?hI7,?hM7,TB.headA (fN 4) (TA :: TA :: SA :: SA :: TA :: SA :: SA :: TA :: SA :: SA :: SA :: SA :: F8 (TA :: TA :: SA :: SA :: SA :: F4 (SA :: SA :: SA :: [])))⟩
    ·dsimp only;exact ⟨hklt,hsuc⟩
    ·dsimp only;omega
   | true =>
    by_cases he:H[k] = b
    ·rw [decide_eq_true he] at hsuc
     repeat (first | (with_reducible first | refine W8 ?_ | refine VA rfl ?_) | ((with_reducible refine X8 fun K hK=>?_);simp (disch:=first | omega | simp only [sB];omega) only [qB,reduceIte,reduceCtorEq,iT,nA,nS,nM,iA,iS,iM,iN,fU,fR,fI,he];subst hK) | refine KB (hsg) rfl rfl rfl ?_)
     refine ⟨(k + 1,b,SA,SA),?hI8,?hM8,TB.headA (fN 4) (TA :: TA :: SA :: SA :: TA :: SA :: SA :: TA :: SA :: SA :: SA :: SA :: F8 (TA :: TA :: SA :: SA :: SA :: F4 (SA :: SA :: SA :: [])))⟩
     ·dsimp only;exact ⟨hklt,by rw [hsuc,he];rfl⟩
     ·dsimp only;omega
    ·rw [decide_eq_false he] at hsuc
     repeat (first | (with_reducible first | refine W8 ?_ | refine VA rfl ?_) | ((with_reducible refine X8 fun K hK=>?_);simp (disch:=first | omega | simp only [sB];omega) only [qB,reduceIte,reduceCtorEq,iT,nA,nS,nM,iA,iS,iM,iN,fU,fR,fI,he];subst hK) | refine KB (hsg) rfl rfl rfl ?_)
     refine ⟨(k + 1,H[k],SA,TA),?hI9,?hM9,TB.headA (fN 4) (TA :: TA :: SA :: SA :: TA :: SA :: SA :: TA :: SA :: SA :: SA :: SA :: F8 (TA :: TA :: SA :: SA :: SA :: F4 (SA :: SA :: SA :: [])))⟩
     ·dsimp only;exact ⟨hklt,hsuc⟩
     ·dsimp only;omega
theorem rows9_C (m:MD) (n:NB) (L:Nat) (hn:FitsN n) (hv:(UA m.vars).length <= 50) (hw:∀ s ∈ UA m.vars,s.length <= 1000000) (hr:∀ r ∈ UA m.rows,r.name.length <= 1000000) (hf:∀ r ∈ UA m.rows,∀ x ∈ UA r.coef,vD x L) (hL:L <= 1000000):YA Tryz.prog 14 [aMd m,aNo n] (.ret (QL (rowsV m n))):=by
 unfold rowsV
 cases hb:bH m n with
 | true=>exact rows9_yes m n L hn hv hw hr hf hL hb
 | false=>exact rows9_no m n hn hv hw hr hb
theorem sS (n:Nat):jA n [Cell.c (.val (.int .i64 0))] = wB fI (jA n 0):=by rw [TE];rfl
theorem ints0 (n:Nat) (hn:n <= 1000000):YA Tryz.prog 34 [.one (.c (jB 1 fI (PA (jA n 0))))] (.fresh 48 3 ((jA n (eB 0)).map fR) (!decide (n = 0))):=by
 refine (ints_C (jA n 0) (by rw [tA];exact hn) (fun k hk=>by rw [(List.mem_replicate.1 hk).2];decide)).to ?_
 rw [List.map_replicate]
 have:(!(jA n (0:Int)).isEmpty) = !decide (n = 0):=by cases n <;> rfl
 rw [this]
 rfl
theorem kH {α:Type} {g:α -> List CV} {h:List Blk} {b ver ty e n:Nat} {live nn:Bool} {l:List α} (hk:h[b]? = PA ⟨ver,ty,e,wB g l,live,nn⟩) (h0:0 < e) (hn:nn = !l.isEmpty) :
  XB h (n + 1) (.own b ver) = PA (jB e g (aC l)):=by
 cases l with
 | nil =>
  have hn':nn = TA:=by rw [hn];rfl
  subst hn'
  simp [XB,hk,h0,jB,aC]
 | cons x l =>
  have hn':nn = SA:=by rw [hn];rfl
  subst hn'
  simp only [XB,hk,h0,and_self,if_true,NK,Option.map_some,jB,qS]
theorem qG {p:PB} (h:AD p = SA):(UA p.C).length <= 5000 /\ (UA p.A).length <= 90 /\ (UA p.B).length = (UA p.A).length /\ ∀ i (hi:i < (UA p.A).length),(UA (UA p.A)[i]).length = (UA p.C).length:=by
 unfold AD at h
 simp only [JA,decide_eq_true_eq] at h
 obtain ⟨h1,h2,h3,h4⟩:=h
 have h4':jG (AF p) (UA p.A).length = TA:=by simpa using h4
 refine ⟨h1,h2,h3,fun i hi=>?_⟩
 have:=xG h4' hi
 unfold AF at this
 rw [mF hi] at this
 simpa using this
theorem make_C (r:RR) (L:Nat) (h:vD r L) (hL:L <= 1000000):YA Tryz.prog 45 [aW (TJ r),aN r.den] (.ret (aR (eB r.val))):=by
 have hmk:=aH (TJ r) r.den (GA h.1 (by omega)) (GA h.2 (by omega))
 rw [aG,RD] at hmk
 exact hmk
def ZI (p:PB) (k n:Nat):List Rat:=(List.range n).map fun i=>jE (RJ p.A i) k
theorem colTo_succ (p:PB) (k n:Nat):ZI p k (n + 1) = ZI p k n ++ [jE (RJ p.A n) k]:=by unfold ZI;rw [List.range_succ,List.map_append];rfl
theorem AN (p:PB) (k n:Nat):(ZI p k n).length = n:=by unfold ZI;rw [eA,List.length_range]
abbrev c107_k1:CC:=(.seq (.reg [(mV 44 5),(mV 4 44)]) .ret)
abbrev c107_b1:CC:=(.seq (.reg [(bB 26 .lss 25 24)]) (.seq (.cond (tP 26) .skip (.exit 0)) (.seq (.block 1 (.seq (.reg [(xA 27 1 23 25),(lF 28 1 27),(mV 7 28)]) (.reg [(mV 29 5),(mV 30 7),(mV 31 1),(xA 32 3 30 31),(fA 33 0 32),(lT 34 2 33),(mV 35 7),(mV 36 1),(xA 37 3 35 36),(fA 38 2 37),(lF 39 1 38),(oD 40 (.callf (.func 45) [(tP 34),(tP 39)])),(oD 41 (.mkrow 48 3 [(tP 40)])),(oD 42 (.append 48 3 56 (tP 29) (tP 41))),(mV 5 42)]))) (.reg [(bC 43 .add 25 1),(mV 25 43)]))))
abbrev c107:CC:=(.seq (.reg [(oD 2 (.box 34 (tP 0))),(oD 4 (.mv nC))]) (.seq (.seq (.reg [(lT 8 3 2),(oD 9 (.callf (.func 48) [(tP 8)])),(uN 10 9),(mV 11 10),(gM 12 11 TA 1),(oG 13 11 TA (.bin .lss (tP 12) (.const (.int .i64 (0))))),(pT 14 11 13),(mV 15 14),(gM 16 15 TA 1),(oG 17 15 TA (.faddr 2 (tP 2))),(oG 18 15 TA (.load 1 TA (tP 17))),(oG 19 15 TA (.len TA (tP 18))),(oG 20 15 TA (.bin .geq (tP 16) (tP 19))),(pT 21 15 20)]) (.cond (tP 21) (.seq (.reg [(oD 4 (.mv nC))]) .ret) .skip)) (.seq (.reg [(oD 5 (.mv nC))]) (.seq (.seq (.reg [(fA 22 0 2),(lF 23 1 22),(nL 24 23),(mI 25 0)]) (.block 0 (.loop c107_b1))) c107_k1))))
theorem cc107:ZA Tryz.prog [] (Tryz.f107.body.getD .skip) = PA c107:=by kernel_rfl
theorem body107:Tryz.f107.body = PA (Tryz.f107.body.getD .skip):=rfl
theorem col_yes (p:PB) (k n L:Nat) (hf:LG p.A n L) (hL:L <= 1000000) (hr0:AD p = SA) (hk:k < (UA p.C).length):YA Tryz.prog 107 [aP p,aI k] (.ret (aV (aC ((ZI p k (UA p.A).length).map eB)))):=by
 obtain ⟨l1,l2,l3,l4⟩:=qG hr0
 have hr:=eM p
 rw [hr0] at hr
 refine YA.fresh_rowO (f:=107) (ty:=48) (g:=fR) ?_
 refine WA (rs:=[(RV.tmp 4)]) Tryz.func107 (fun a w=>Tryz.call107 a w) body107 cc107 (by kernel_rfl) ?_
 rw [Tryz.ntmps107]
 simp only [pC,nA,nS]
 repeat (first | (with_reducible first | refine W8 ?_ | refine VA rfl ?_) | ((with_reducible refine X8 fun K hK=>?_);simp (disch:=first | omega | simp only [sB];omega) only [qB,reduceIte,reduceCtorEq,iT,nA,nS,nM,iA,iS,iM,iN,fU];subst hK) | refine KB (hr) rfl rfl rfl ?_)
 refine uD.fgt ?_ (TB.openNil (i:=5) rfl 48 3)
 simp only [lA,mA,pA,oA,qA,rA,nA]
 refine xB (fun (zz:Nat × (List RR) × Nat × Bool)=>⟨(.junk :: aI k :: .junk :: .junk :: .junk :: .one (.own 1 zz.2.2.1) :: L8 (.junk :: aM p.A :: aI (UA p.A).length :: aI zz.1 :: L8 (.junk :: .junk :: .junk :: []))),[⟨0,34,3,[[.c (jB 1 fM p.A),.c (vr p.B),.c (vr p.C)]],SA,SA⟩,⟨zz.2.2.1,48,3,wB fR zz.2.1,SA,zz.2.2.2⟩]⟩) (fun (zz:Nat × (List RR) × Nat × Bool)=>zz.1 <= (UA p.A).length /\ zz.2.1 = (ZI p k zz.1).map eB /\ zz.2.2.2 = !zz.2.1.isEmpty) (fun (zz:Nat × (List RR) × Nat × Bool)=>(UA p.A).length - zz.1) (0,[],0,TA) ?hI1 (TB.headN (fN 2) [TA,SA,TA,TA,TA,SA,TA,TA,TA,TA,TA,TA,TA,TA,TA,TA,TA,TA,TA,TA,TA,TA,TA,SA,SA,SA]) ?hB1
 ·dsimp only;exact ⟨fN _,rfl,rfl⟩
 rintro ⟨i,out,v,nn⟩ ⟨hi,ho,hnn⟩
 dsimp only at hi ho hnn
 by_cases him:i = (UA p.A).length
 ·repeat (first | (with_reducible first | refine W8 ?_ | refine VA rfl ?_) | ((with_reducible refine X8 fun K hK=>?_);simp (disch:=first | omega | simp only [sB];omega) only [qB,reduceIte,reduceCtorEq,iT,nA,nS,nM,iA,iS,iM,iN,fU];subst hK))
  refine ⟨_,rfl,?_⟩
  rw [him] at ho
  rw [<- ho,<- hnn]
  exact JD.fresh_enc rfl
 ·have hlt:i < (UA p.A).length:=by omega
  have hrl:=l4 i hlt
  have hkl:k < (UA (UA p.A)[i]).length:=by omega
  have hmk:=make_C (UA (UA p.A)[i])[k] L ((hf.2 _ (gA hlt)).2 _ (gA hkl)) hL
  have hol:out.length = i:=by rw [ho,eA,AN]
  have hq:jE (RJ p.A i) k = (UA (UA p.A)[i])[k].val:=by rw [mF hlt];unfold jE;rw [fE hkl]
  repeat (first | (with_reducible first | refine W8 ?_ | refine VA rfl ?_) | ((with_reducible refine X8 fun K hK=>?_);simp (disch:=first | omega | simp only [sB];omega) only [qB,reduceIte,reduceCtorEq,iT,nA,nS,nM,iA,iS,iM,iN,fU,fM,fR];subst hK) | refine KB (hmk) rfl rfl rfl ?_)
  refine ⟨(i + 1,out ++ [eB (UA (UA p.A)[i])[k].val],v + 1,SA),?hI2,?hM2,TB.head (fN 2) [TA,SA,TA,TA,TA,SA,TA,TA,TA,TA,TA,TA,TA,TA,TA,TA,TA,TA,TA,TA,TA,TA,TA,SA,SA,SA] ?hT2 ?hH2⟩
  case hT2 | hH2=>first | (simp (disch:=omega) only [pD,IB,lB,XA,clean1,uB,reduceIte,iS,iA,iN,YB,kA,KA,LA];done) | rfl
  ·dsimp only
   exact ⟨by omega,by rw [ho,colTo_succ,List.map_append,hq];rfl,by simp⟩
  ·dsimp only;omega
theorem vscale_N (a:VV) (by':RR) (n L:Nat) (ha:vC a n L) (hb:vD by' L) (hn:n <= 1000000) (hL:1 <= L) (hL2:L <= 4000000):YA Tryz.prog 44 [aV a,aR by'] (.fresh 48 3 (((JE a by'.val).map eB).map fR) (!((JE a by'.val).map eB).isEmpty)) :=
 (XL a by' n L ha hb hn hL hL2).to (by rw [uA,List.isEmpty_map];rfl)
end Go.Proofs.YtncgbjhojbnecaaGreat
