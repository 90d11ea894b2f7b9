/- Walks of vec: Zero. -/
import Derived.Test.YtncgbjhojbnecaaMB
import Derived.Test.YtncgbjhojbnecaaSC
set_option linter.unusedSimpArgs false
set_option linter.unusedVariables false
set_option linter.unnecessarySimpa false
set_option maxRecDepth 100000
set_option maxHeartbeats 4000000
namespace Go.Proofs.Ytncgbjhojbnecaa
open Go Go.Am Go.Proofs Go.RowKit Go.Off
open Nat renaming reduceAdd -> nA,reduceSub -> nS,reduceMul -> nM,reduceBEq -> nB
open Int renaming reduceToNat -> iT,reduceAdd -> iA,reduceSub -> iS,reduceMul -> iM,reduceNeg -> iN
theorem firstNZ_zero (a:VV):(decide (firstNZ a >= 0)) = !zeroQ a:=by
 unfold zeroQ
 cases h:zeroTo a (osl a).length with
 | true=>rw [firstNZ_none h];rfl
 | false =>
  unfold firstNZ
  cases hf:(List.range (osl a).length).find? (fun i=>!decide (qAt a i = 0)) with
  | none =>
   exfalso
   rw [List.find?_eq_none] at hf
   unfold zeroTo at h
   rw [List.all_eq_false] at h
   obtain ⟨x,hx,hn⟩:=h
   exact hf x hx (by simpa using hn)
  | some k=>simp
abbrev c62:CC:=(.seq (.reg [⟨some 4,none,.mv (.const (.bool false))⟩]) (.seq (.reg [⟨some 5,none,.mv (.tmp 0)⟩,⟨some 6,none,.mv (.tmp 1)⟩,⟨some 7,none,.callf (.func 86) [(.tmp 5),(.tmp 6)]⟩,⟨some 8,none,.bin .geq (.tmp 7) (.const (.int .i64 (0)))⟩,⟨some 4,none,.mv (.tmp 8)⟩]) .ret))
theorem cc62:ccode Try.prog [] (Try.f62.body.getD .skip) = some c62:=by kernel_rfl
theorem body62:Try.f62.body = some (Try.f62.body.getD .skip):=rfl
def pAt (q:RR -> Bool) (a:VV) (i:Nat):Bool:=q (rAt a i)
abbrev aFn (f:FuncId):AV:=.one (.fn f [])
theorem idxR_C (a:VV) (f:FuncId) (q:RR -> Bool) (hl:(osl a).length <= 1000000) (hq:∀ r ∈ osl a,PureC Try.prog f [aR r] (.ret (aB (q r)))) :
  PureC Try.prog 86 [aV a,aFn f] (.ret (aI (fstI (pAt q a) (osl a).length))):=by
 refine pureC_of (rs:=[(RV.tmp 4)]) Try.func86 (fun a w=>Try.call86 a w) body86 cc86 (by kernel_rfl) ?_
 rw [Try.ntmps86]
 simp only [frs,nA,nS]
 repeat (first | (with_reducible first | refine Way.imp ?_ | refine blk_o rfl ?_) | ((with_reducible refine WayR.imp (fun K hK=>?_));simp (disch:=first | omega | (simp only [dls];omega)) only [std,reduceIte,reduceCtorEq,iT,nA,nS,nM,iA,iS,iM,iN,fU];subst hK))
 refine awp_loop (fun (zz:Nat)=>⟨(aV a :: aFn f :: .junk :: .junk :: aI 0 :: .junk :: aV a :: aI (osl a).length :: aI zz :: .junk :: .junk :: .junk :: .junk :: .junk :: .junk :: .junk :: .junk :: .junk :: .junk :: []),[]⟩) (fun (zz:Nat)=>zz <= (osl a).length /\ anyI (pAt q a) zz = false) (fun (zz:Nat)=>(osl a).length - zz) (0) ?hI1 (Fgt.head (Nat.le_refl _) [true,true,false,false,true,false,true,true,true] ?hT1 ?hH1) ?hB1
 case hT1=>first | (simp (disch:=omega) only [hds,liveT,cleanAV,cleanCell,clean1,cleanBlk,reduceIte,iS,iA,iN];done) | rfl
 case hH1=>first | (simp (disch:=omega) only [hds,liveT,cleanAV,cleanCell,clean1,cleanBlk,reduceIte,iS,iA,iN];done) | rfl
 ·exact ⟨Nat.zero_le _,rfl⟩
 rintro i ⟨hi,hs⟩
 by_cases him:i = (osl a).length
 ·repeat (first | (with_reducible first | refine Way.imp ?_ | refine blk_o rfl ?_) | ((with_reducible refine WayR.imp (fun K hK=>?_));simp (disch:=first | omega | (simp only [dls];omega)) only [std,reduceIte,reduceCtorEq,iT,nA,nS,nM,iA,iS,iM,iN,fU];subst hK))
  rw [fstI_none (by rw [<- him];exact hs)]
  exact ⟨_,rfl,rfl⟩
 ·have hlt:i < (osl a).length:=by omega
  have hz:=hq _ (List.getElem_mem hlt)
  have hb:pAt q a i = q (osl a)[i]:=by unfold pAt;rw [rAt_in hlt]
  cases he:q (osl a)[i] with
  | false =>
   rw [he] at hz hb
   repeat (first | (with_reducible first | refine Way.imp ?_ | refine blk_o rfl ?_) | ((with_reducible refine WayR.imp (fun K hK=>?_));simp (disch:=first | omega | (simp only [dls];omega)) only [std,reduceIte,reduceCtorEq,iT,nA,nS,nM,iA,iS,iM,iN,fU,fR];subst hK) | refine zcV (hz) rfl rfl rfl ?_)
   refine ⟨(i + 1),?hI2,?hM2,Fgt.head (Nat.le_refl _) [true,true,false,false,true,false,true,true,true] ?hT2 ?hH2⟩
   case hT2=>first | (simp (disch:=omega) only [hds,liveT,cleanAV,cleanCell,clean1,cleanBlk,reduceIte,iS,iA,iN];done) | rfl
   case hH2=>first | (simp (disch:=omega) only [hds,liveT,cleanAV,cleanCell,clean1,cleanBlk,reduceIte,iS,iA,iN];done) | rfl
   ·exact ⟨Nat.succ_le_of_lt hlt,by rw [anyI_succ,hs,hb];rfl⟩
   ·show (osl a).length - (i + 1) < (osl a).length - i;omega
  | true =>
   rw [he] at hz hb
   repeat (first | (with_reducible first | refine Way.imp ?_ | refine blk_o rfl ?_) | ((with_reducible refine WayR.imp (fun K hK=>?_));simp (disch:=first | omega | (simp only [dls];omega)) only [std,reduceIte,reduceCtorEq,iT,nA,nS,nM,iA,iS,iM,iN,fU,fR];subst hK) | refine zcV (hz) rfl rfl rfl ?_)
   rw [fstI_some hlt hs hb]
   exact ⟨_,rfl,rfl⟩
theorem conR_C (a:VV) (f:FuncId) (q:RR -> Bool) (hl:(osl a).length <= 1000000) (hq:∀ r ∈ osl a,PureC Try.prog f [aR r] (.ret (aB (q r)))) :
  PureC Try.prog 62 [aV a,aFn f] (.ret (aB (anyI (pAt q a) (osl a).length))):=by
 have hx:=idxR_C a f q hl hq
 rw [<- fstI_any]
 generalize fstI (pAt q a) (osl a).length = k at *
 refine pureC_of (rs:=[(RV.tmp 4)]) Try.func62 (fun a w=>Try.call62 a w) body62 cc62 (by kernel_rfl) ?_
 rw [Try.ntmps62]
 simp only [frs,nA,nS]
 repeat (first | (with_reducible first | refine Way.imp ?_ | refine blk_o rfl ?_) | ((with_reducible refine WayR.imp (fun K hK=>?_));simp (disch:=first | omega | (simp only [dls];omega)) only [std,reduceIte,reduceCtorEq,iT,nA,nS,nM,iA,iS,iM,iN,fU];subst hK) | refine zcA (hx) rfl rfl rfl ?_)
 exact ⟨_,rfl,rfl⟩
abbrev c61:CC:=(.seq (.reg [⟨some 1,none,.box 41 (.tmp 0)⟩,⟨some 2,none,.mv (.const (.bool false))⟩]) (.seq (.reg [⟨some 3,none,.load 3 true (.tmp 1)⟩,⟨some 4,none,.callf (.func 23) [(.tmp 3)]⟩,⟨some 5,none,.bin .lss (.tmp 4) (.const (.int .i64 (0)))⟩,⟨some 2,none,.mv (.tmp 5)⟩]) .ret))
theorem cc61:ccode Try.prog [] (Try.f61.body.getD .skip) = some c61:=by kernel_rfl
theorem body61:Try.f61.body = some (Try.f61.body.getD .skip):=rfl
theorem does1_C (r:RR) (L:Nat) (h:Fits r L) (hL:L <= 1000000):PureC Try.prog 61 [aR r] (.ret (aB (belowB r))):=by
 have hs:=rsign_C r (h.mono (by omega))
 rw [<- sgn_below]
 generalize sgn r.top = s at *
 refine pureC_of (rs:=[(RV.tmp 2)]) Try.func61 (fun a w=>Try.call61 a w) body61 cc61 (by kernel_rfl) ?_
 rw [Try.ntmps61]
 simp only [frs,nA,nS]
 repeat (first | (with_reducible first | refine Way.imp ?_ | refine blk_o rfl ?_) | ((with_reducible refine WayR.imp (fun K hK=>?_));simp (disch:=first | omega | (simp only [dls];omega)) only [std,reduceIte,reduceCtorEq,iT,nA,nS,nM,iA,iS,iM,iN,fU];subst hK) | refine zcA (hs) rfl rfl rfl ?_)
 exact ⟨_,rfl,rfl⟩
def doesTo (p:PB) (x:VV) (k:Nat):Bool:=(List.range k).all fun i=>decide (dotV (mAt p.A i) x = qAt p.B i)
theorem doesTo_succ (p:PB) (x:VV) (k:Nat):doesTo p x (k + 1) = (doesTo p x k && decide (dotV (mAt p.A k) x = qAt p.B k)):=by unfold doesTo;rw [List.range_succ,List.all_append];simp
theorem doesTo_false {p:PB} {x:VV} {k n:Nat} (hk:k < n) (h:dotV (mAt p.A k) x ≠ qAt p.B k):doesTo p x n = false:=by
 unfold doesTo
 rw [List.all_eq_false]
 exact ⟨k,List.mem_range.2 hk,by simpa using h⟩
def doesB (p:PB) (x:VV):Bool:=rightB p && (decide ((osl x).length = (osl p.C).length) && (!anyI (pAt belowB x) (osl x).length && doesTo p x (osl p.A).length))
theorem cmp_eq (q:Rat):cmpQ q q = 0:=by
 unfold cmpQ
 rw [if_neg (by grind),if_neg (by grind)]
theorem cmpQ_ne {a b:Rat} (h:a ≠ b):cmpQ a b ≠ 0:=by
 intro e
 have:=cmpQ_zero a b
 rw [e,decide_eq_false h] at this
 cases this
abbrev c26_k1:CC:=(.seq (.reg [⟨some 4,none,.mv (.const (.bool true))⟩]) .ret)
abbrev c26_b1:CC:=(.seq (.reg [⟨some 28,none,.bin .lss (.tmp 27) (.tmp 26)⟩]) (.seq (.cond (.tmp 28) .skip (.exit 0)) (.seq (.block 1 (.seq (.reg [⟨some 29,none,.mv (.tmp 27)⟩,⟨some 30,none,.iaddr 1 none (.tmp 25) (.tmp 27)⟩,⟨some 31,none,.load 1 false (.tmp 30)⟩,⟨some 6,none,.mv (.tmp 29)⟩,⟨some 7,none,.mv (.tmp 31)⟩]) (.seq (.reg [⟨some 32,none,.mv (.tmp 7)⟩,⟨some 33,none,.mv (.tmp 1)⟩,⟨some 34,none,.callf (.func 18) [(.tmp 32),(.tmp 33)]⟩,⟨some 35,none,.faddr 1 (.tmp 2)⟩,⟨some 36,none,.load 1 false (.tmp 35)⟩,⟨some 37,none,.mv (.tmp 6)⟩,⟨some 38,none,.iaddr 3 none (.tmp 36) (.tmp 37)⟩,⟨some 39,none,.load 3 true (.tmp 38)⟩,⟨some 40,none,.callf (.func 17) [(.tmp 34),(.tmp 39)]⟩,⟨some 41,none,.bin .neq (.tmp 40) (.const (.int .i64 (0)))⟩]) (.cond (.tmp 41) (.seq (.reg [⟨some 4,none,.mv (.const (.bool false))⟩]) .ret) .skip)))) (.reg [⟨some 42,none,.bin .add (.tmp 27) (.const (.int .i64 (1)))⟩,⟨some 27,none,.mv (.tmp 42)⟩]))))
abbrev c26:CC:=(.seq (.reg [⟨some 2,none,.box 25 (.tmp 0)⟩,⟨some 4,none,.mv (.const (.bool false))⟩]) (.seq (.reg [⟨some 5,none,.mv (.func 61)⟩]) (.seq (.seq (.reg [⟨some 8,none,.load 3 true (.tmp 2)⟩,⟨some 9,none,.callf (.func 11) [(.tmp 8)]⟩,⟨some 10,none,.un .not (.tmp 9)⟩,⟨some 11,none,.mv (.tmp 10)⟩,⟨some 12,(some (11,false)),.mv (.tmp 1)⟩,⟨some 13,(some (11,false)),.len false (.tmp 12)⟩,⟨some 14,(some (11,false)),.faddr 2 (.tmp 2)⟩,⟨some 15,(some (11,false)),.load 1 false (.tmp 14)⟩,⟨some 16,(some (11,false)),.len false (.tmp 15)⟩,⟨some 17,(some (11,false)),.bin .neq (.tmp 13) (.tmp 16)⟩,⟨some 18,none,.pick (.tmp 11) (.const (.bool true)) (.tmp 17)⟩,⟨some 19,none,.mv (.tmp 18)⟩,⟨some 20,(some (19,false)),.mv (.tmp 1)⟩,⟨some 21,(some (19,false)),.mv (.tmp 5)⟩,⟨some 22,(some (19,false)),.callf (.func 62) [(.tmp 20),(.tmp 21)]⟩,⟨some 23,none,.pick (.tmp 19) (.const (.bool true)) (.tmp 22)⟩]) (.cond (.tmp 23) (.seq (.reg [⟨some 4,none,.mv (.const (.bool false))⟩]) .ret) .skip)) (.seq (.seq (.reg [⟨some 24,none,.faddr 0 (.tmp 2)⟩,⟨some 25,none,.load 1 false (.tmp 24)⟩,⟨some 26,none,.len false (.tmp 25)⟩,⟨some 27,none,.mv (.const (.int .i64 (0)))⟩]) (.block 0 (.loop c26_b1))) c26_k1))))
theorem cc26:ccode Try.prog [] (Try.f26.body.getD .skip) = some c26:=by kernel_rfl
theorem body26:Try.f26.body = some (Try.f26.body.getD .skip):=rfl
theorem does_C (p:PB) (x:VV) (n L:Nat) (hp:FitsP p n L) (hx:FitsV x n L) (hn:n <= 1000) (hL:1 <= L) (hL2:L <= 2000):PureC Try.prog 26 [aP p,aV x] (.ret (aB (doesB p x))):=by
 have hr:=sright_C p
 have hx1:=hx.1
 have hA1:=hp.1.1
 have hB1:=hp.2.1.1
 unfold doesB
 cases c1:rightB p with
 | false =>
  rw [c1] at hr
  refine pureC_of (rs:=[(RV.tmp 4)]) Try.func26 (fun a w=>Try.call26 a w) body26 cc26 (by kernel_rfl) ?_
  rw [Try.ntmps26]
  simp only [frs,nA,nS]
  repeat (first | (with_reducible first | refine Way.imp ?_ | refine blk_o rfl ?_) | ((with_reducible refine WayR.imp (fun K hK=>?_));simp (disch:=first | omega | (simp only [dls];omega)) only [std,reduceIte,reduceCtorEq,iT,nA,nS,nM,iA,iS,iM,iN,fU];subst hK) | refine zcA (hr) rfl rfl rfl ?_)
  exact ⟨_,rfl,rfl⟩
 | true =>
  have c1':=c1
  rw [c1] at hr
  rw [Bool.true_and]
  unfold rightB at c1'
  simp only [Bool.and_eq_true,decide_eq_true_eq] at c1'
  have hBA:=c1'.2.2.1
  by_cases c2:(osl x).length = (osl p.C).length
  case neg =>
   rw [decide_eq_false c2,Bool.false_and]
   refine pureC_of (rs:=[(RV.tmp 4)]) Try.func26 (fun a w=>Try.call26 a w) body26 cc26 (by kernel_rfl) ?_
   rw [Try.ntmps26]
   simp only [frs,nA,nS]
   repeat (first | (with_reducible first | refine Way.imp ?_ | refine blk_o rfl ?_) | ((with_reducible refine WayR.imp (fun K hK=>?_));simp (disch:=first | omega | (simp only [dls];omega)) only [std,reduceIte,reduceCtorEq,iT,nA,nS,nM,iA,iS,iM,iN,fU];subst hK) | refine zcA (hr) rfl rfl rfl ?_)
   exact ⟨_,rfl,rfl⟩
  have hc:=conR_C x 61 belowB (by omega) (fun r hr=>does1_C r L (hx.2 r hr) (by omega))
  rw [decide_eq_true c2,Bool.true_and]
  cases c3:anyI (pAt belowB x) (osl x).length with
  | true =>
   rw [c3] at hc
   refine pureC_of (rs:=[(RV.tmp 4)]) Try.func26 (fun a w=>Try.call26 a w) body26 cc26 (by kernel_rfl) ?_
   rw [Try.ntmps26]
   simp only [frs,nA,nS]
   repeat (first | (with_reducible first | refine Way.imp ?_ | refine blk_o rfl ?_) | ((with_reducible refine WayR.imp (fun K hK=>?_));simp (disch:=first | omega | (simp only [dls];omega)) only [std,reduceIte,reduceCtorEq,iT,nA,nS,nM,iA,iS,iM,iN,fU,c2];subst hK) | refine zcA (hr) rfl rfl rfl ?_ | (apply call_any_g (hc) rfl;(case hg=>simp (disch:=first | omega | (simp only [dls];omega)) only [std,reduceIte,reduceCtorEq,iT,nA,nS,nM,iA,iS,iM,iN,fU,c2]);(case hcl=>(simp only [evs,St.ev,constAV,evl];(repeat (first | exact closeAVs_nil | (apply closeAVs_cons;(first | (refine close_own3 rfl (by decide)) | (refine close_ownO rfl (by decide) ?_;assumption) | rfl))));done));(case hu=>rfl)))
   exact ⟨_,rfl,rfl⟩
  | false =>
   rw [c3] at hc
   rw [Bool.not_false,Bool.true_and]
   refine pureC_of (rs:=[(RV.tmp 4)]) Try.func26 (fun a w=>Try.call26 a w) body26 cc26 (by kernel_rfl) ?_
   rw [Try.ntmps26]
   simp only [frs,nA,nS]
   repeat (first | (with_reducible first | refine Way.imp ?_ | refine blk_o rfl ?_) | ((with_reducible refine WayR.imp (fun K hK=>?_));simp (disch:=first | omega | (simp only [dls];omega)) only [std,reduceIte,reduceCtorEq,iT,nA,nS,nM,iA,iS,iM,iN,fU,c2];subst hK) | refine zcA (hr) rfl rfl rfl ?_ | (apply call_any_g (hc) rfl;(case hg=>simp (disch:=first | omega | (simp only [dls];omega)) only [std,reduceIte,reduceCtorEq,iT,nA,nS,nM,iA,iS,iM,iN,fU,c2]);(case hcl=>(simp only [evs,St.ev,constAV,evl];(repeat (first | exact closeAVs_nil | (apply closeAVs_cons;(first | (refine close_own3 rfl (by decide)) | (refine close_ownO rfl (by decide) ?_;assumption) | rfl))));done));(case hu=>rfl)))
   refine awp_loop (fun (zz:Nat)=>⟨(.junk :: aV x :: .one (.ptr 0 0 0 0) :: .junk :: .junk :: .junk :: .junk :: .junk :: .junk :: .junk :: .junk :: .junk :: .junk :: .junk :: .junk :: .junk :: .junk :: .junk :: .junk :: .junk :: .junk :: .junk :: .junk :: .junk :: .junk :: aM p.A :: aI (osl p.A).length :: aI zz :: .junk :: .junk :: .junk :: .junk :: .junk :: .junk :: .junk :: .junk :: .junk :: .junk :: .junk :: .junk :: .junk :: .junk :: .junk :: []),[⟨0,25,3,[[.c (encSl 1 fM p.A),.c (vr p.B),.c (vr p.C)]],true,true⟩]⟩) (fun (zz:Nat)=>zz <= (osl p.A).length /\ doesTo p x zz = true) (fun (zz:Nat)=>(osl p.A).length - zz) (0) ?hI3 (Fgt.head (Nat.zero_le 1) [false,true,true,false,false,false,false,false,false,false,false,false,false,false,false,false,false,false,false,false,false,false,false,false,false,true,true,true] ?hT3 ?hH3) ?hB3
   case hT3=>first | (simp (disch:=omega) only [hds,liveT,cleanAV,cleanCell,clean1,cleanBlk,reduceIte,iS,iA,iN];done) | rfl
   case hH3=>first | (simp (disch:=omega) only [hds,liveT,cleanAV,cleanCell,clean1,cleanBlk,reduceIte,iS,iA,iN];done) | rfl
   ·exact ⟨Nat.zero_le _,rfl⟩
   rintro i ⟨hi,hs⟩
   by_cases him:i = (osl p.A).length
   ·rw [<- him,hs]
    repeat (first | (with_reducible first | refine Way.imp ?_ | refine blk_o rfl ?_) | ((with_reducible refine WayR.imp (fun K hK=>?_));simp (disch:=first | omega | (simp only [dls];omega)) only [std,reduceIte,reduceCtorEq,iT,nA,nS,nM,iA,iS,iM,iN,fU];subst hK))
    exact ⟨_,rfl,rfl⟩
   ·have hlt:i < (osl p.A).length:=by omega
    have hltB:i < (osl p.B).length:=by omega
    have hrf:=hp.1.2 _ (List.getElem_mem hlt)
    have hd:=dot_C (osl p.A)[i] x n L hrf hx hn hL hL2
    have hfd:=fits_dot hrf hx hL
    have hfb:=hp.2.1.2 _ (List.getElem_mem hltB)
    have hnL:n * (2 * L + 1) <= 1000 * 4001:=Nat.mul_le_mul hn (by omega)
    have hcm:=rcompare_C (rawQ (dotV (osl p.A)[i] x)) (osl p.B)[i] ((fits_rawQ hfd).mono (by omega)) (hfb.mono (by omega))
    rw [rawQ_val] at hcm
    have hqb:qAt p.B i = (osl p.B)[i].val:=by unfold qAt;rw [rAt_in hltB]
    by_cases he:dotV (osl p.A)[i] x = (osl p.B)[i].val
    ·rw [he,cmp_eq] at hcm
     rw [he] at hd
     repeat (first | (with_reducible first | refine Way.imp ?_ | refine blk_o rfl ?_) | ((with_reducible refine WayR.imp (fun K hK=>?_));simp (disch:=first | omega | (simp only [dls];omega)) only [std,reduceIte,reduceCtorEq,iT,nA,nS,nM,iA,iS,iM,iN,fU,fM,fR];subst hK) | refine zcA (hd) rfl rfl rfl ?_ | refine zcA (hcm) rfl rfl rfl ?_)
     refine ⟨(i + 1),?hI4,?hM4,Fgt.head (Nat.zero_le 1) [false,true,true,false,false,false,false,false,false,false,false,false,false,false,false,false,false,false,false,false,false,false,false,false,false,true,true,true] ?hT4 ?hH4⟩
     case hT4=>first | (simp (disch:=omega) only [hds,liveT,cleanAV,cleanCell,clean1,cleanBlk,reduceIte,iS,iA,iN];done) | rfl
     case hH4=>first | (simp (disch:=omega) only [hds,liveT,cleanAV,cleanCell,clean1,cleanBlk,reduceIte,iS,iA,iN];done) | rfl
     ·exact ⟨Nat.succ_le_of_lt hlt,by rw [doesTo_succ,hs,mAt_in hlt,hqb,he];simp⟩
     ·show (osl p.A).length - (i + 1) < (osl p.A).length - i;omega
    ·have hne:=cmpQ_ne he
     rw [doesTo_false hlt (by rw [mAt_in hlt,hqb];exact he)]
     generalize cmpQ (dotV (osl p.A)[i] x) (osl p.B)[i].val = z at *
     repeat (first | (with_reducible first | refine Way.imp ?_ | refine blk_o rfl ?_) | ((with_reducible refine WayR.imp (fun K hK=>?_));simp (disch:=first | omega | (simp only [dls];omega)) only [std,reduceIte,reduceCtorEq,iT,nA,nS,nM,iA,iS,iM,iN,fU,fM,fR];subst hK) | refine zcA (hd) rfl rfl rfl ?_ | refine zcA (hcm) rfl rfl rfl ?_)
     exact ⟨_,rfl,rfl⟩
end Go.Proofs.Ytncgbjhojbnecaa
