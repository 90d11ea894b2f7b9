/- Walks of shape: With. -/
import Derived.Test.YtncgbjhojbnecaaB0
import Derived.Test.YtncgbjhojbnecaaMB
import Derived.Test.YtncgbjhojbnecaaSB
import Derived.Test.YtncgbjhojbnecaaSC
import Derived.Test.YtncgbjhojbnecaaSV
set_option linter.unusedSimpArgs false
set_option linter.unusedVariables false
set_option linter.unnecessarySimpa false
set_option maxRecDepth 100000
set_option maxHeartbeats 4000000
namespace Go.Proofs.Ytncgbjhojbnecaa
open Go Go.Am Go.Proofs Go.RowKit Go.Off
open Nat renaming reduceAdd -> nA,reduceSub -> nS,reduceMul -> nM,reduceBEq -> nB
open Int renaming reduceToNat -> iT,reduceAdd -> iA,reduceSub -> iS,reduceMul -> iM,reduceNeg -> iN
def withRow (v:VV) (r:RR):List Rat:=((osl v).map fun x=>x.val) ++ [r.val]
def withTo (p:PB) (c:VV) (k:Nat):QM:=(List.range k).map fun i=>withRow (mAt p.A i) (rAt c i)
theorem withTo_succ (p:PB) (c:VV) (k:Nat):withTo p c (k + 1) = withTo p c k ++ [withRow (mAt p.A k) (rAt c k)]:=by unfold withTo;rw [List.range_succ,List.map_append];rfl
theorem withTo_len (p:PB) (c:VV) (k:Nat):(withTo p c k).length = k:=by unfold withTo;rw [List.length_map,List.length_range]
def withP (p:PB) (c:VV) (cost:RR):PB:=⟨rowO ((withTo p c (osl p.A).length).map rowV),rowV ((osl p.B).map fun r=>r.val),rowV (withRow p.C cost)⟩
theorem vscale_N (a:VV) (by':RR) (n L:Nat) (ha:FitsV a n L) (hb:Fits by' L) (hn:n <= 1000000) (hL:1 <= L) (hL2:L <= 4000000):PureC Try.prog 16 [aV a,aR by'] (.fresh 41 3 (((scaleQ a by'.val).map rawQ).map fR) (!((scaleQ a by'.val).map rawQ).isEmpty)) :=
 (vscale_C a by' n L ha hb hn hL hL2).to (by rw [List.map_map,List.isEmpty_map];rfl)
theorem withRow_map (v:VV) (r:RR):(withRow v r).map rawQ = ((osl v).map fun x=>x.val).map rawQ ++ [rawQ r.val]:=by unfold withRow;rw [List.map_append];rfl
theorem withRow_nn (v:VV) (r:RR):true = !((withRow v r).map rawQ).isEmpty:=by rw [withRow_map];cases ((osl v).map fun x=>x.val).map rawQ <;> rfl
theorem close_W {h:List Blk} {a c va vc ta tc:Nat} {la lc na nc:Bool} {A:List VV} {C:List RR} {B:VV} {x:CV} (h1:h[a]? = some ⟨va,ta,1,encB fM A,la,na⟩) (h3:h[c]? = some ⟨vc,tc,3,encB fR C,lc,nc⟩)
  (n1:na = !A.isEmpty) (n3:nc = !C.isEmpty) :
  closeRes h (.tup [.agg [.own a va,.c (vr B),.own c vc],.one (.c x)]) = some (.tup [aP ⟨rowO A,B,rowO C⟩,.one (.c x)]):=by
 have e1:=closeCV_ownO (n:=2) h1 (by decide) n1
 have e3:=closeCV_ownO (n:=2) h3 (by decide) n3
 unfold closeRes
 simp [closeAV,closeFn,closeCell,closeCV] at *
 simp [e1,e3]
abbrev c24_k1:CC:=(.seq (.reg [⟨some 75,none,.load 3 true (.tmp 8)⟩,⟨none,none,.store 3 (.tmp 6) (.tmp 75)⟩,⟨some 7,none,.mv (.const (.bool true))⟩]) .ret)
abbrev c24_b1:CC:=(.seq (.reg [⟨some 49,none,.bin .lss (.tmp 48) (.tmp 47)⟩]) (.seq (.cond (.tmp 49) .skip (.exit 0)) (.seq (.block 1 (.seq (.reg [⟨some 50,none,.mv (.tmp 48)⟩,⟨some 51,none,.iaddr 1 none (.tmp 46) (.tmp 48)⟩,⟨some 52,none,.load 1 false (.tmp 51)⟩,⟨some 9,none,.mv (.tmp 50)⟩,⟨some 10,none,.mv (.tmp 52)⟩]) (.regn false [⟨some 55,none,.mv (.tmp 10)⟩,⟨some 56,none,.callf (.func 15) [(.const (.int .i64 (1)))]⟩,⟨some 57,none,.callf (.func 16) [(.tmp 55),(.tmp 56)]⟩,⟨some 58,none,.mv (.tmp 1)⟩,⟨some 59,none,.mv (.tmp 9)⟩,⟨some 60,none,.iaddr 3 none (.tmp 58) (.tmp 59)⟩,⟨some 61,none,.faddr 0 (.tmp 60)⟩,⟨some 62,none,.load 2 true (.tmp 61)⟩,⟨some 63,none,.mv (.tmp 1)⟩,⟨some 64,none,.mv (.tmp 9)⟩,⟨some 65,none,.iaddr 3 none (.tmp 63) (.tmp 64)⟩,⟨some 66,none,.faddr 2 (.tmp 65)⟩,⟨some 67,none,.load 1 false (.tmp 66)⟩,⟨some 68,none,.callf (.func 47) [(.tmp 62),(.tmp 67)]⟩,⟨some 69,none,.mkrowc 3 [(.tmp 68)]⟩,⟨some 70,none,.append 41 3 56 (.tmp 57) (.tmp 69)⟩,⟨some 53,none,.faddr 0 (.tmp 8)⟩,⟨some 54,none,.load 1 false (.tmp 53)⟩,⟨some 71,none,.mkrow 23 1 [(.tmp 70)]⟩,⟨some 72,none,.append 23 1 24 (.tmp 54) (.tmp 71)⟩,⟨some 73,none,.faddr 0 (.tmp 8)⟩,⟨none,none,.store 1 (.tmp 73) (.tmp 72)⟩]))) (.reg [⟨some 74,none,.bin .add (.tmp 48) (.const (.int .i64 (1)))⟩,⟨some 48,none,.mv (.tmp 74)⟩]))))
abbrev c24:CC:=(.seq (.reg [⟨some 3,none,.box 25 (.tmp 0)⟩,⟨some 5,none,.box 41 (.tmp 2)⟩,⟨some 6,none,.new 25 [(.slice none 0 0),(.slice none 0 0),(.slice none 0 0)]⟩,⟨some 7,none,.mv (.const (.bool false))⟩]) (.seq (.seq (.reg [⟨some 11,none,.load 3 true (.tmp 3)⟩,⟨some 12,none,.callf (.func 11) [(.tmp 11)]⟩,⟨some 13,none,.un .not (.tmp 12)⟩,⟨some 14,none,.mv (.tmp 13)⟩,⟨some 15,(some (14,false)),.faddr 2 (.tmp 3)⟩,⟨some 16,(some (14,false)),.load 1 false (.tmp 15)⟩,⟨some 17,(some (14,false)),.len false (.tmp 16)⟩,⟨some 18,(some (14,false)),.bin .geq (.tmp 17) (.const (.int .i64 (5000)))⟩,⟨some 19,none,.pick (.tmp 14) (.const (.bool true)) (.tmp 18)⟩,⟨some 20,none,.mv (.tmp 19)⟩,⟨some 21,(some (20,false)),.mv (.tmp 1)⟩,⟨some 22,(some (20,false)),.len false (.tmp 21)⟩,⟨some 23,(some (20,false)),.faddr 0 (.tmp 3)⟩,⟨some 24,(some (20,false)),.load 1 false (.tmp 23)⟩,⟨some 25,(some (20,false)),.len false (.tmp 24)⟩,⟨some 26,(some (20,false)),.bin .neq (.tmp 22) (.tmp 25)⟩,⟨some 27,none,.pick (.tmp 20) (.const (.bool true)) (.tmp 26)⟩]) (.cond (.tmp 27) (.seq (.reg [⟨some 28,none,.build [(.slice none 0 0),(.slice none 0 0),(.slice none 0 0)] []⟩,⟨none,none,.store 3 (.tmp 6) (.tmp 28)⟩,⟨some 7,none,.mv (.const (.bool false))⟩]) .ret) .skip)) (.seq (.regn true [⟨some 29,none,.faddr 1 (.tmp 3)⟩,⟨some 30,none,.load 1 false (.tmp 29)⟩,⟨some 31,none,.callf (.func 15) [(.const (.int .i64 (1)))]⟩,⟨some 32,none,.callf (.func 16) [(.tmp 30),(.tmp 31)]⟩,⟨some 33,none,.faddr 2 (.tmp 3)⟩,⟨some 34,none,.load 1 false (.tmp 33)⟩,⟨some 35,none,.callf (.func 15) [(.const (.int .i64 (1)))]⟩,⟨some 36,none,.callf (.func 16) [(.tmp 34),(.tmp 35)]⟩,⟨some 37,none,.faddr 0 (.tmp 5)⟩,⟨some 38,none,.load 2 true (.tmp 37)⟩,⟨some 39,none,.faddr 2 (.tmp 5)⟩,⟨some 40,none,.load 1 false (.tmp 39)⟩,⟨some 41,none,.callf (.func 47) [(.tmp 38),(.tmp 40)]⟩,⟨some 42,none,.mkrowc 3 [(.tmp 41)]⟩,⟨some 43,none,.append 41 3 56 (.tmp 36) (.tmp 42)⟩,⟨some 44,none,.build [(.slice none 0 0),(.slice none 0 0),(.slice none 0 0)] [(1,(1,(.tmp 32))),(2,(1,(.tmp 43)))]⟩,⟨some 8,none,.fill 25 [(.slice none 0 0),(.slice none 0 0),(.slice none 0 0)]⟩,⟨none,none,.store 3 (.tmp 8) (.tmp 44)⟩]) (.seq (.seq (.reg [⟨some 45,none,.faddr 0 (.tmp 3)⟩,⟨some 46,none,.load 1 false (.tmp 45)⟩,⟨some 47,none,.len false (.tmp 46)⟩,⟨some 48,none,.mv (.const (.int .i64 (0)))⟩]) (.block 0 (.loop c24_b1))) c24_k1))))
theorem cc24:ccode Try.prog [] (Try.f24.body.getD .skip) = some c24:=by kernel_rfl
theorem body24:Try.f24.body = some (Try.f24.body.getD .skip):=rfl
theorem with_no (p:PB) (c:VV) (cost:RR) (h:rightB p = false \/ 5000 <= (osl p.C).length \/ (osl c).length ≠ (osl p.A).length):PureC Try.prog 24 [aP p,aV c,aR cost] (.ret (.tup [aP ⟨none,none,none⟩,aB false])):=by
 have hr:=sright_C p
 cases c1:rightB p with
 | false =>
  rw [c1] at hr
  refine pureC_of (rs:=[(RV.cell 6 3 true),(RV.tmp 7)]) Try.func24 (fun a w=>Try.call24 a w) body24 cc24 (by kernel_rfl) ?_
  rw [Try.ntmps24]
  simp only [frs,nA,nS]
  repeat (first | (with_reducible first | refine Way.imp ?_ | refine blk_o rfl ?_) | ((with_reducible refine WayR.imp (fun K hK=>?_));simp (disch:=first | omega | (simp only [dls];omega)) only [std,reduceIte,reduceCtorEq,iT,nA,nS,nM,iA,iS,iM,iN,fU];subst hK) | refine zcA (hr) rfl rfl rfl ?_)
  exact ⟨_,rfl,rfl⟩
 | true =>
  rw [c1] at hr
  replace h:=h.resolve_left (by rw [c1];simp)
  by_cases h2:5000 <= (osl p.C).length
  ·refine pureC_of (rs:=[(RV.cell 6 3 true),(RV.tmp 7)]) Try.func24 (fun a w=>Try.call24 a w) body24 cc24 (by kernel_rfl) ?_
   rw [Try.ntmps24]
   simp only [frs,nA,nS]
   repeat (first | (with_reducible first | refine Way.imp ?_ | refine blk_o rfl ?_) | ((with_reducible refine WayR.imp (fun K hK=>?_));simp (disch:=first | omega | (simp only [dls];omega)) only [std,reduceIte,reduceCtorEq,iT,nA,nS,nM,iA,iS,iM,iN,fU];subst hK) | refine zcA (hr) rfl rfl rfl ?_)
   exact ⟨_,rfl,rfl⟩
  ·have h3:=h.resolve_left h2
   refine pureC_of (rs:=[(RV.cell 6 3 true),(RV.tmp 7)]) Try.func24 (fun a w=>Try.call24 a w) body24 cc24 (by kernel_rfl) ?_
   rw [Try.ntmps24]
   simp only [frs,nA,nS]
   repeat (first | (with_reducible first | refine Way.imp ?_ | refine blk_o rfl ?_) | ((with_reducible refine WayR.imp (fun K hK=>?_));simp (disch:=first | omega | (simp only [dls];omega)) only [std,reduceIte,reduceCtorEq,iT,nA,nS,nM,iA,iS,iM,iN,fU];subst hK) | refine zcA (hr) rfl rfl rfl ?_)
   exact ⟨_,rfl,rfl⟩
theorem with_yes (p:PB) (c:VV) (cost:RR) (n L:Nat) (hf:FitsP p n L) (hc:FitsV c n L) (hco:Fits cost L) (hn:n <= 1000) (hL:1 <= L) (hL2:L <= 100000) (hr0:rightB p = true) (h5:(osl p.C).length < 5000) (hcl:(osl c).length = (osl p.A).length) :
  PureC Try.prog 24 [aP p,aV c,aR cost] (.ret (.tup [aP (withP p c cost),aB true])):=by
 obtain ⟨l1,l2,l3,l4⟩:=right_len hr0
 have hr:=sright_C p
 rw [hr0] at hr
 have hint:=rint_C 1 (by omega) (by omega)
 rw [show ((1:Int):Rat) = 1 from rfl] at hint
 have hsq:∀ v:VV,scaleQ v (rawQ 1).val = (osl v).map fun r=>r.val:=fun v=>by unfold scaleQ;rw [rawQ_val];simp only [Rat.mul_one]
 have hsB:=vscale_R p.B (rawQ 1) n L hf.2.1 (fits_rawQ (fitsQ_one L hL)) (by omega) hL (by omega)
 have hsC:=vscale_N p.C (rawQ 1) n L hf.2.2 (fits_rawQ (fitsQ_one L hL)) (by omega) hL (by omega)
 rw [hsq] at hsB hsC
 have hmk:=make_C cost L hco (by omega)
 refine pureC_of (rs:=[(RV.cell 6 3 true),(RV.tmp 7)]) Try.func24 (fun a w=>Try.call24 a w) body24 cc24 (by kernel_rfl) ?_
 rw [Try.ntmps24]
 simp only [frs,nA,nS]
 repeat (first | (with_reducible first | refine Way.imp ?_ | refine blk_o rfl ?_) | ((with_reducible refine WayR.imp (fun K hK=>?_));simp (disch:=first | omega | (simp only [dls];omega)) only [std,reduceIte,reduceCtorEq,iT,nA,nS,nM,iA,iS,iM,iN,fU,hcl,List.length_map,encB_snoc_row,List.isEmpty_cons,Bool.or_true,Bool.not_false];subst hK) | refine zcA (hr) rfl rfl rfl ?_ | refine zcA (hint) rfl rfl rfl ?_ | refine zcA (hsB) rfl rfl rfl ?_ | refine zcA (hint) rfl rfl rfl ?_ | (apply call_new (hsC) rfl;(case hcl=>(simp only [evs,St.ev,constAV,evl];(repeat (first | exact closeAVs_nil | (apply closeAVs_cons;(first | (refine close_own3 rfl (by decide)) | (refine close_ownO rfl (by decide) ?_;assumption) | rfl))));done));(case hu=>(simp only [evs,St.ev,constAV,evl];(repeat (first | exact used_nil | (apply used_cons;(first | (apply used_own3;rfl) | rfl))));done));(case hh=>((simp only [fzl,nB,nA,Bool.false_eq_true,if_true,if_false,reduceIte]) <;> rfl))) | refine zcA (hmk) rfl rfl rfl ?_)
 rw [<- withRow_map]
 refine AWp.fgt ?_ (Fgt.phantom _ 23 1)
 refine AWp.fgt ?_ (Fgt.cellsOpen (b:=3) (els':=[[.own 5 0,.c (vr (rowV ((osl p.B).map fun r=>r.val))),.own 4 1]]) rfl (.cons (.cons (.inr ⟨rfl,5,_,rfl,rfl,rfl⟩) (.cons (.inl rfl) (.cons (.inl rfl) .nil))) .nil))
 simp only [List.cons_append,List.nil_append,List.set_cons_succ,List.set_cons_zero]
 refine awp_loop (fun (zz:Nat × (List VV) × Nat × Bool)=>⟨(.junk :: aV c :: .junk :: .junk :: .junk :: .junk :: .one (.ptr 2 0 0 0) :: .junk :: .one (.ptr 3 1 0 0) :: .junk :: .junk :: .junk :: .junk :: .junk :: .junk :: .junk :: .junk :: .junk :: .junk :: .junk :: .junk :: .junk :: .junk :: .junk :: .junk :: .junk :: .junk :: .junk :: .junk :: .junk :: .junk :: .junk :: .junk :: .junk :: .junk :: .junk :: .junk :: .junk :: .junk :: .junk :: .junk :: .junk :: .junk :: .junk :: .junk :: .junk :: aM p.A :: aI (osl p.A).length :: aI zz.1 :: .junk :: .junk :: .junk :: .junk :: .junk :: .junk :: .junk :: .junk :: .junk :: .junk :: .junk :: .junk :: .junk :: .junk :: .junk :: .junk :: .junk :: .junk :: .junk :: .junk :: .junk :: .junk :: .junk :: .junk :: .junk :: .junk :: .junk :: []),[⟨0,25,3,[[.c (encSl 1 fM p.A),.c (vr p.B),.c (vr p.C)]],true,true⟩,⟨0,41,3,[[.c (.val (.bool cost.minus)),.c (nr cost.size),.c (nr cost.den)]],true,true⟩,⟨0,25,3,[[.c (.val (.slice none 0 0)),.c (.val (.slice none 0 0)),.c (.val (.slice none 0 0))]],true,true⟩,⟨1,25,3,[[.own 5 zz.2.2.1,.c (vr (rowV ((osl p.B).map fun r=>r.val))),.own 4 1]],true,true⟩,⟨1,41,3,encB fR ((withRow p.C cost).map rawQ),true,true⟩,⟨zz.2.2.1,23,1,encB fM zz.2.1,true,zz.2.2.2⟩]⟩) (fun (zz:Nat × (List VV) × Nat × Bool)=>zz.1 <= (osl p.A).length /\ zz.2.1 = (withTo p c zz.1).map rowV /\ zz.2.2.2 = !zz.2.1.isEmpty) (fun (zz:Nat × (List VV) × Nat × Bool)=>(osl p.A).length - zz.1) (0,[],0,false) ?hI1 (Fgt.head (Nat.zero_le 6) (false :: true :: false :: false :: false :: false :: true :: false :: true :: false :: false :: false :: false :: false :: false :: false :: false :: false :: false :: false :: false :: false :: false :: false :: false :: false :: false :: false :: false :: false :: false :: false :: false :: false :: false :: false :: false :: false :: false :: false :: false :: false :: false :: false :: false :: false :: true :: true :: true :: []) ?hT1 ?hH1) ?hB1
 case hT1=>first | (simp (disch:=omega) only [hds,liveT,cleanAV,cleanCell,clean1,cleanBlk,reduceIte,iS,iA,iN,encB_nil];done) | rfl
 case hH1=>first | (simp (disch:=omega) only [hds,liveT,cleanAV,cleanCell,clean1,cleanBlk,reduceIte,iS,iA,iN,encB_nil];done) | rfl
 ·dsimp only;exact ⟨Nat.zero_le _,rfl,rfl⟩
 rintro ⟨i,out,va,na⟩ ⟨hi,ho,hna⟩
 dsimp only at hi ho hna
 by_cases him:i = (osl p.A).length
 ·repeat (first | (with_reducible first | refine Way.imp ?_ | refine blk_o rfl ?_) | ((with_reducible refine WayR.imp (fun K hK=>?_));simp (disch:=first | omega | (simp only [dls];omega)) only [std,reduceIte,reduceCtorEq,iT,nA,nS,nM,iA,iS,iM,iN,fU];subst hK))
  refine ⟨_,rfl,?_⟩
  rw [him] at ho
  show closeRes _ (.tup [.agg [.own 5 va,.c (vr (rowV ((osl p.B).map fun r=>r.val))),.own 4 1],.one (.c (.val (.bool true)))]) = _
  rw [close_W (A:=out) (C:=(withRow p.C cost).map rawQ) rfl rfl hna (withRow_nn _ _),ho]
  rfl
 ·have hlt:i < (osl p.A).length:=by omega
  have hltc:i < (osl c).length:=by omega
  have hrf:=hf.1.2 _ (List.getElem_mem hlt)
  have hsR:=vscale_N (osl p.A)[i] (rawQ 1) n L hrf (fits_rawQ (fitsQ_one L hL)) (by omega) hL (by omega)
  rw [hsq] at hsR
  have hmc:=make_C (osl c)[i] L (hc.2 _ (List.getElem_mem hltc)) (by omega)
  have hol:out.length = i:=by rw [ho,List.length_map,withTo_len]
  have hrl:=l4 i hlt
  repeat (first | (with_reducible first | refine Way.imp ?_ | refine blk_o rfl ?_) | ((with_reducible refine WayR.imp (fun K hK=>?_));simp (disch:=first | omega | (simp only [dls];omega)) only [std,reduceIte,reduceCtorEq,iT,nA,nS,nM,iA,iS,iM,iN,fU,fM,fR,List.length_map,encB_snoc_row,List.isEmpty_cons,Bool.or_true,Bool.not_false];subst hK) | refine zcA (hint) rfl rfl rfl ?_ | (apply call_new (hsR) rfl;(case hcl=>(simp only [evs,St.ev,constAV,evl];(repeat (first | exact closeAVs_nil | (apply closeAVs_cons;(first | (refine close_own3 rfl (by decide)) | (refine close_ownO rfl (by decide) ?_;assumption) | rfl))));done));(case hu=>(simp only [evs,St.ev,constAV,evl];(repeat (first | exact used_nil | (apply used_cons;(first | (apply used_own3;rfl) | rfl))));done));(case hh=>((simp only [fzl,nB,nA,Bool.false_eq_true,if_true,if_false,reduceIte]) <;> rfl))) | refine zcA (hmc) rfl rfl rfl ?_)
  rw [<- withRow_map]
  refine ⟨(i + 1,out ++ [rowV (withRow (osl p.A)[i] (osl c)[i])],va + 1,true),⟨by dsimp only;omega,?_,?_⟩,by dsimp only;omega,Fgt.trans (Fgt.cellSnocO (b:=5) (c:=6) (f:=fM) (l:=out) (g:=fR) (r:=(withRow (osl p.A)[i] (osl c)[i]).map rawQ) (x:=rowV (withRow (osl p.A)[i] (osl c)[i])) rfl rfl (by decide) (withRow_nn _ _) rfl (by decide)) ?_⟩
  ·dsimp only;rw [ho,withTo_succ,List.map_append,mAt_in hlt,rAt_in hltc];rfl
  ·dsimp only;cases out <;> rfl
  ·rw [freeze_from]
   simp only [fzl,nB,nA,Bool.false_eq_true,if_true,if_false,reduceIte,List.set_cons_zero,List.set_cons_succ]
   refine Fgt.head (Nat.zero_le 6) (false :: true :: false :: false :: false :: false :: true :: false :: true :: false :: false :: false :: false :: false :: false :: false :: false :: false :: false :: false :: false :: false :: false :: false :: false :: false :: false :: false :: false :: false :: false :: false :: false :: false :: false :: false :: false :: false :: false :: false :: false :: false :: false :: false :: false :: false :: true :: true :: true :: []) ?hT2 ?hH2
   case hT2=>first | (simp (disch:=omega) only [hds,liveT,cleanAV,cleanCell,clean1,cleanBlk,reduceIte,iS,iA,iN,List.isEmpty_cons,Bool.or_true,Bool.not_false];done) | rfl
   case hH2=>first | (simp (disch:=omega) only [hds,liveT,cleanAV,cleanCell,clean1,cleanBlk,reduceIte,iS,iA,iN,List.isEmpty_cons,Bool.or_true,Bool.not_false];done) | rfl
end Go.Proofs.Ytncgbjhojbnecaa
namespace Go.Off
theorem dual_sum (P:PF) (y x:List Rat):sumR P.n (fun k=>colY P y k * lF x k) = sumR P.m (fun i=>lF y i * rowX P x i):=by
 have e1:∀ k,k < P.n -> colY P y k * lF x k = sumR P.m (fun i=>lF y i * P.a i k * lF x k):=fun k _=>by
  unfold colY;rw [sumR_mul]
 rw [sumR_congr e1,sumR_comm]
 refine sumR_congr (fun i _=>?_)
 unfold rowX
 rw [<- sumR_mull]
 exact sumR_congr (fun k _=>by rw [Rat.mul_assoc])
theorem sumR_le' {n:Nat} {f g:Nat -> Rat} (h:∀ i,i < n -> f i <= g i):sumR n f <= sumR n g:=by
 have:=sumR_nn' (f:=fun i=>g i - f i) (fun i hi=>by have:=h i hi;grind)
 rw [sumR_sub] at this
 grind
theorem weak {P:PF} {y x:List Rat} (hy:∀ k,k < P.n -> colY P y k <= P.c k) (hx:Feas P x):ybP P y <= cxP P x:=by
 have h1:sumR P.n (fun k=>colY P y k * lF x k) <= cxP P x:=sumR_le' (fun k hk=>Rat.mul_le_mul_of_nonneg_right (hy k hk) (hx.2.1 k hk))
 rw [dual_sum] at h1
 have e:sumR P.m (fun i=>lF y i * rowX P x i) = ybP P y:=sumR_congr (fun i hi=>by rw [hx.2.2 i hi])
 rw [e] at h1
 exact h1
theorem prov_le {P:PF} {r:SR} (h:Prov P r) (hv:r.v = 1) {x:List Rat} (hx:Feas P x):cxP P r.X <= cxP P x:=by
 rcases h with ⟨_,_,_,h4,h5,_⟩ | ⟨h1,_⟩ | ⟨h1,_⟩
 ·rw [<- h5];exact weak h4 hx
 ·omega
 ·omega
theorem prov_no {P:PF} {r:SR} (h:Prov P r) (hv:r.v = 2) {x:List Rat} (hx:Feas P x):False:=by
 rcases h with ⟨h1,_⟩ | ⟨_,_,_,_,h4,h5⟩ | ⟨h1,_⟩
 ·omega
 ·have h6:sumR P.n (fun k=>colY P r.Y k * lF x k) <= 0:=sumR_np (fun k hk=>by
   have:=mul_np (hx.2.1 k hk) (h4 k hk)
   rw [Rat.mul_comm];exact this)
  rw [dual_sum] at h6
  have e:sumR P.m (fun i=>lF r.Y i * rowX P x i) = ybP P r.Y:=sumR_congr (fun i hi=>by rw [hx.2.2 i hi])
  rw [e] at h6
  exact absurd h5 (Rat.not_lt.2 h6)
 ·omega
theorem prov_feas {P:PF} {r:SR} (h:Prov P r) (hv:r.v ≠ 2):Feas P r.X:=by
 rcases h with ⟨_,h2,_⟩ | ⟨h1,_⟩ | ⟨_,_,h2,_⟩
 ·exact h2
 ·exact absurd h1 hv
 ·exact h2
theorem prov_v {P:PF} {r:SR} (h:Prov P r):r.v = 1 \/ r.v = 2 \/ r.v = 3:=by
 rcases h with ⟨h1,_⟩ | ⟨h1,_⟩ | ⟨h1,_⟩
 ·exact .inl h1
 ·exact .inr (.inl h1)
 ·exact .inr (.inr h1)
def alongL (n:Nat) (x ray:List Rat) (t:Rat):List Rat:=(List.range n).map fun k=>lF x k + lF ray k * t
theorem along_at {n k:Nat} (hk:k < n) (x ray:List Rat) (t:Rat):lF (alongL n x ray t) k = lF x k + lF ray k * t:=getD_mapR n _ k 0 hk
theorem along_feas {P:PF} {x ray:List Rat} {t:Rat} (hx:Feas P x) (h1:∀ k,k < P.n -> 0 <= lF ray k) (h2:∀ i,i < P.m -> rowX P ray i = 0) (ht:0 <= t):Feas P (alongL P.n x ray t):=by
 refine ⟨by unfold alongL;rw [List.length_map,List.length_range],fun k hk=>?_,fun i hi=>?_⟩
 ·rw [along_at hk]
  have:=Rat.mul_nonneg (h1 k hk) ht
  have:=hx.2.1 k hk
  grind
 ·rw [<- hx.2.2 i hi]
  have e:rowX P (alongL P.n x ray t) i = rowX P x i + rowX P ray i * t:=by
   unfold rowX
   rw [<- sumR_lin]
   exact sumR_congr (fun k hk=>by rw [along_at hk];grind)
  rw [e,h2 i hi,Rat.zero_mul,Rat.add_zero]
theorem along_cost {P:PF} (x ray:List Rat) (t:Rat):cxP P (alongL P.n x ray t) = cxP P x + cxP P ray * t:=by
 unfold cxP
 rw [<- sumR_lin]
 exact sumR_congr (fun k hk=>by rw [along_at hk];grind)
theorem prov_not13 {P:PF} {r s:SR} (h:Prov P r) (g:Prov P s) (hr:r.v = 1) (hs:s.v = 3):False:=by
 rcases g with ⟨g1,_⟩ | ⟨g1,_⟩ | ⟨_,_,g3,g4,g5,g6,g7⟩
 ·omega
 ·omega
 ·obtain ⟨q,hq⟩:∃ q,q = -(cxP P s.Ray):=⟨_,rfl⟩
  have q0:0 < q:=by grind
  have l0:=prov_le h hr g3
  have t0:0 <= (cxP P s.X - cxP P r.X + 1) * q⁻¹:=Rat.mul_nonneg (by grind) (Rat.le_of_lt (inv_pos q0))
  have h1:=prov_le h hr (along_feas g3 g5 g6 t0)
  rw [along_cost] at h1
  have e:q * q⁻¹ = 1:=Rat.mul_inv_cancel _ (fun e=>by rw [e] at q0;exact absurd q0 (by decide))
  have e2:cxP P s.Ray = -q:=by grind
  rw [e2] at h1
  have e3 : -q * ((cxP P s.X - cxP P r.X + 1) * q⁻¹) = -(cxP P s.X - cxP P r.X + 1):=by grind
  rw [e3] at h1
  grind
theorem prov_same {P:PF} {r s:SR} (h:Prov P r) (g:Prov P s):r.v = s.v /\ (r.v = 1 -> cxP P r.X = cxP P s.X):=by
 have key:∀ {r s:SR},Prov P r -> Prov P s -> r.v = 1 -> s.v = 1:=fun {r s} h g hr=>by
  rcases prov_v g with hs | hs | hs
  ·exact hs
  ·exact (prov_no g hs (prov_feas h (by omega))).elim
  ·exact (prov_not13 h g hr hs).elim
 have hv:r.v = s.v:=by
  rcases prov_v h with hr | hr | hr
  ·rw [hr,key h g hr]
  ·rcases prov_v g with hs | hs | hs
   ·exact absurd (key g h hs) (by omega)
   ·omega
   ·exact (prov_no h hr (prov_feas g (by omega))).elim
  ·rcases prov_v g with hs | hs | hs
   ·exact absurd (key g h hs) (by omega)
   ·exact (prov_no g hs (prov_feas h (by omega))).elim
   ·omega
 refine ⟨hv,fun hr=>?_⟩
 have h1:=prov_le h hr (prov_feas g (by omega))
 have h2:=prov_le g (by omega) (prov_feas h (by omega))
 exact Rat.le_antisymm h1 h2
theorem prov_twice {P Q:PF} {q:Rat} (h0:0 < q) (hm:Q.m = P.m) (hn:Q.n = P.n) (ha:∀ i k,i < P.m -> k < P.n -> Q.a i k = P.a i k * q) (hb:∀ i,i < P.m -> Q.b i = P.b i * q) (hc:∀ k,k < P.n -> Q.c k = P.c k * q) {s:SR} (h:Prov Q s) :
  Prov P s /\ ∀ x,cxP Q x = cxP P x * q:=by
 have c1:∀ y k,k < P.n -> colY Q y k = colY P y k * q:=fun y k hk=>by
  unfold colY;rw [hm,<- sumR_mul];exact sumR_congr (fun i hi=>by rw [ha i k hi hk];grind)
 have c2:∀ x i,i < P.m -> rowX Q x i = rowX P x i * q:=fun x i hi=>by
  unfold rowX;rw [hn,<- sumR_mul];exact sumR_congr (fun k hk=>by rw [ha i k hi hk];grind)
 have c3:∀ y,ybP Q y = ybP P y * q:=fun y=>by
  unfold ybP;rw [hm,<- sumR_mul];exact sumR_congr (fun i hi=>by rw [hb i hi];grind)
 have c4:∀ x,cxP Q x = cxP P x * q:=fun x=>by
  unfold cxP;rw [hn,<- sumR_mul];exact sumR_congr (fun k hk=>by rw [hc k hk];grind)
 have e:q * q⁻¹ = 1:=Rat.mul_inv_cancel _ (fun e=>by rw [e] at h0;exact absurd h0 (by decide))
 have can:∀ {a b:Rat},a * q = b * q -> a = b:=fun {a b} h=>by
  have h2:a * q * q⁻¹ = b * q * q⁻¹:=by rw [h]
  grind
 have i0:=inv_pos h0
 have canl:∀ {a b:Rat},a * q <= b * q -> a <= b:=fun {a b} h=>by
  have h2:=Rat.mul_le_mul_of_nonneg_right h (Rat.le_of_lt i0)
  have e1:a * q * q⁻¹ = a:=by grind
  have e2:b * q * q⁻¹ = b:=by grind
  rw [e1,e2] at h2
  exact h2
 have canp:∀ {a:Rat},0 < a * q -> 0 < a:=fun {a} h=>Rat.not_le.1 (fun hn=>by
  have:=mul_np (Rat.le_of_lt h0) hn
  rw [Rat.mul_comm] at this
  exact absurd h (Rat.not_lt.2 this))
 have cann:∀ {a:Rat},a * q < 0 -> a < 0:=fun {a} h=>Rat.not_le.1 (fun hn=>by
  have:=Rat.mul_nonneg hn (Rat.le_of_lt h0)
  exact absurd h (Rat.not_lt.2 this))
 have hf:∀ {x},Feas Q x -> Feas P x:=fun {x} hx=>⟨by rw [<- hn];exact hx.1,fun k hk=>hx.2.1 k (by omega),fun i hi=>can (by rw [<- c2 x i hi,<- hb i hi];exact hx.2.2 i (by omega))⟩
 refine ⟨?_,c4⟩
 rcases h with ⟨h1,h2,h3,h4,h5,h6⟩ | ⟨h1,h2,h3,h4,h5,h6⟩ | ⟨h1,h2,h3,h4,h5,h6,h7⟩
 ·exact .inl ⟨h1,hf h2,by omega,fun k hk=>canl (by rw [<- c1 _ k hk,<- hc k hk];exact h4 k (by omega)),can (by rw [<- c3,<- c4];exact h5),h6⟩
 ·exact .inr (.inl ⟨h1,h2,h3,by omega,fun k hk=>canl (by rw [<- c1 _ k hk,Rat.zero_mul];exact h5 k (by omega)),canp (by rw [<- c3];exact h6)⟩)
 ·exact .inr (.inr ⟨h1,h2,hf h3,by omega,fun k hk=>h5 k (by omega),fun i hi=>can (by rw [<- c2 _ i hi,Rat.zero_mul];exact h6 i (by omega)),cann (by rw [<- c4];exact h7)⟩)
end Go.Off
namespace Go.Off
theorem lF_snoc (l:List Rat) (q:Rat) {k:Nat} (h:k < l.length):lF (l ++ [q]) k = lF l k:=by
 unfold lF
 rw [List.getD_eq_getElem?_getD,List.getElem?_append_left h,<- List.getD_eq_getElem?_getD]
theorem lF_last (l:List Rat) (q:Rat):lF (l ++ [q]) l.length = q:=by
 unfold lF
 rw [List.getD_eq_getElem?_getD,List.getElem?_append_right (Nat.le_refl _),Nat.sub_self]
 rfl
theorem prov_more {P Q:PF} {r:SR} (hm:Q.m = P.m) (hn:Q.n = P.n + 1) (ha:∀ i k,i < P.m -> k < P.n -> Q.a i k = P.a i k) (hb:∀ i,i < P.m -> Q.b i = P.b i) (hc:∀ k,k < P.n -> Q.c k = P.c k) (hd:colY Q r.Y P.n <= Q.c P.n) (h:Prov P r) (hv:r.v = 1) :
  Prov Q { r with X:=r.X ++ [0] } /\ cxP Q (r.X ++ [0]) = cxP P r.X:=by
 rcases h with ⟨h1,h2,h3,h4,h5,h6⟩ | ⟨h1,_⟩ | ⟨h1,_⟩
 ·have hl:=h2.1
  have e0:lF (r.X ++ [0]) P.n = 0:=by rw [<- hl];exact lF_last _ _
  have ek:∀ k,k < P.n -> lF (r.X ++ [0]) k = lF r.X k:=fun k hk=>lF_snoc _ _ (by omega)
  have hrow:∀ i,i < P.m -> rowX Q (r.X ++ [0]) i = rowX P r.X i:=fun i hi=>by
   unfold rowX
   rw [hn]
   show sumR P.n _ + Q.a i P.n * lF (r.X ++ [0]) P.n = _
   rw [e0,Rat.mul_zero,Rat.add_zero]
   exact sumR_congr (fun k hk=>by rw [ek k hk,ha i k hi hk])
  have hcx:cxP Q (r.X ++ [0]) = cxP P r.X:=by
   unfold cxP
   rw [hn]
   show sumR P.n _ + Q.c P.n * lF (r.X ++ [0]) P.n = _
   rw [e0,Rat.mul_zero,Rat.add_zero]
   exact sumR_congr (fun k hk=>by rw [ek k hk,hc k hk])
  refine ⟨.inl ⟨h1,⟨by show (r.X ++ [0]).length = _;rw [List.length_append,hl,hn];rfl,fun k hk=>?_,fun i hi=>?_⟩,by show r.Y.length = _;omega,fun k hk=>?_,?_,h6⟩,hcx⟩
  ·show 0 <= lF (r.X ++ [0]) k
   by_cases e:k = P.n
   ·rw [e,e0];exact Rat.le_refl
   ·rw [ek k (by omega)];exact h2.2.1 k (by omega)
  ·show rowX Q (r.X ++ [0]) i = _
   rw [hrow i (by omega),hb i (by omega)];exact h2.2.2 i (by omega)
  ·show colY Q r.Y k <= _
   by_cases e:k = P.n
   ·rw [e];exact hd
   ·rw [hc k (by omega)]
    have:colY Q r.Y k = colY P r.Y k:=by
     unfold colY;rw [hm];exact sumR_congr (fun i hi=>by rw [ha i k hi (by omega)])
    rw [this];exact h4 k (by omega)
  ·show ybP Q r.Y = cxP Q (r.X ++ [0])
   rw [hcx,<- h5]
   unfold ybP
   rw [hm]
   exact sumR_congr (fun i hi=>by rw [hb i hi])
 ·omega
 ·omega
end Go.Off
namespace Go.Proofs.Ytncgbjhojbnecaa
open Go Go.Am Go.Proofs Go.RowKit Go.Off
open Nat renaming reduceAdd -> nA,reduceSub -> nS,reduceMul -> nM,reduceBEq -> nB
open Int renaming reduceToNat -> iT,reduceAdd -> iA,reduceSub -> iS,reduceMul -> iM,reduceNeg -> iN
theorem prov_lens' {P:PF} {r:SR} (h:Prov P r):r.X.length <= P.n /\ r.Y.length <= P.m /\ r.Ray.length <= P.n:=by
 rcases h with ⟨_,⟨x1,_⟩,y1,_,_,z⟩ | ⟨_,x,z,y1,_⟩ | ⟨_,y,⟨x1,_⟩,z1,_⟩
 ·rw [z];exact ⟨by omega,by omega,Nat.zero_le _⟩
 ·rw [x,z];exact ⟨Nat.zero_le _,by omega,Nat.zero_le _⟩
 ·rw [y];exact ⟨by omega,Nat.zero_le _,by omega⟩
theorem cx_dot' {p:PB} {x:List Rat} (hx:x.length = (osl p.C).length):dotV p.C (rowV x) = cxP (pfOf p) x:=by
 rw [dot_sum]
 unfold vmin
 rw [len_rowV,hx,Nat.min_self]
 exact sumR_congr (fun i _=>by rw [qAt_rowV];rfl)
theorem wr_len (v:VV) (r:RR):(withRow v r).length = (osl v).length + 1:=by unfold withRow;rw [List.length_append,List.length_map];rfl
theorem wr_at (v:VV) (r:RR) {k:Nat} (h:k < (osl v).length):(withRow v r).getD k 0 = qAt v k:=by
 unfold withRow
 rw [List.getD_eq_getElem?_getD,List.getElem?_append_left (by rw [List.length_map];exact h),<- List.getD_eq_getElem?_getD]
 exact vals_at v k
theorem wr_last (v:VV) (r:RR):(withRow v r).getD (osl v).length 0 = r.val:=by
 unfold withRow
 rw [List.getD_eq_getElem?_getD,List.getElem?_append_right (by rw [List.length_map];exact Nat.le_refl _),List.length_map,Nat.sub_self]
 rfl
theorem wr_fits {v:VV} {r:RR} {n L:Nat} (hv:FitsV v n L) (hr:Fits r L) (hL:1 <= L):FitsV (rowV (withRow v r)) (n + 1) L:=by
 refine fits_rowV (by rw [wr_len];have:=hv.1;omega) (fun q hq=>?_)
 unfold withRow at hq
 rcases List.mem_append.1 hq with h | h
 ·exact vals_fits hv hL q h
 ·rw [List.mem_singleton.1 h];exact hr.val hL
theorem wp_Al (p:PB) (c:VV) (k:RR):(osl (withP p c k).A).length = (osl p.A).length:=by
 show (osl (rowO _)).length = _
 rw [osl_rowO,List.length_map,withTo_len]
theorem wp_At (p:PB) (c:VV) (k:RR) {i:Nat} (h:i < (osl p.A).length):mAt (withP p c k).A i = rowV (withRow (mAt p.A i) (rAt c i)):=by
 show mAt (mL (withTo p c (osl p.A).length)) i = _
 rw [mAt_mL (by rw [withTo_len];exact h)]
 congr 1
 exact getD_mapR _ _ i [] h
theorem wp_B (p:PB) (c:VV) (k:RR):(withP p c k).B = rowV (valsV p.B):=rfl
theorem wp_C (p:PB) (c:VV) (k:RR):(withP p c k).C = rowV (withRow p.C k):=rfl
theorem wp_right {p:PB} (h:rightB p = true) (h5:(osl p.C).length < 5000) (c:VV) (k:RR):rightB (withP p c k) = true:=by
 obtain ⟨l1,l2,l3,l4⟩:=right_len h
 unfold rightB
 have e1:(osl (withP p c k).C).length = (osl p.C).length + 1:=by rw [wp_C,len_rowV,wr_len]
 have e2:(osl (withP p c k).B).length = (osl p.B).length:=by rw [wp_B,len_rowV,vals_len]
 rw [wp_Al,e1,e2,decide_eq_true (show (osl p.C).length + 1 <= 5000 by omega),decide_eq_true l2,decide_eq_true l3]
 have:anyI (rowBad (withP p c k)) (osl p.A).length = false:=anyI_of (fun i hi=>by
  unfold rowBad
  rw [wp_At p c k hi,len_rowV,wr_len,e1,mAt_in hi,l4 i hi]
  simp)
 rw [this];rfl
abbrev c6:CC:=(.seq (.reg [⟨some 3,none,.box 25 (.tmp 0)⟩,⟨some 5,none,.box 41 (.tmp 2)⟩,⟨some 6,none,.mv (.const (.bool false))⟩]) (.seq (.seq (.reg [⟨some 13,none,.load 3 true (.tmp 3)⟩,⟨some 14,none,.callf (.func 10) [(.tmp 13)]⟩,⟨some 15,none,.un .not (.tmp 14)⟩,⟨some 16,none,.mv (.tmp 15)⟩,⟨some 17,(some (16,false)),.load 3 true (.tmp 3)⟩,⟨some 18,(some (16,false)),.callf (.func 11) [(.tmp 17)]⟩,⟨some 19,(some (16,false)),.un .not (.tmp 18)⟩,⟨some 20,none,.pick (.tmp 16) (.const (.bool true)) (.tmp 19)⟩,⟨some 21,none,.mv (.tmp 20)⟩,⟨some 22,(some (21,false)),.faddr 2 (.tmp 3)⟩,⟨some 23,(some (21,false)),.load 1 false (.tmp 22)⟩,⟨some 24,(some (21,false)),.len false (.tmp 23)⟩,⟨some 25,(some (21,false)),.bin .gtr (.tmp 24) (.const (.int .i64 (7)))⟩,⟨some 26,none,.pick (.tmp 21) (.const (.bool true)) (.tmp 25)⟩,⟨some 27,none,.mv (.tmp 26)⟩,⟨some 28,(some (27,false)),.mv (.tmp 1)⟩,⟨some 29,(some (27,false)),.build [(.slice none 0 0),(.slice none 0 0),(.slice none 0 0)] [(2,(1,(.tmp 28)))]⟩,⟨some 30,(some (27,false)),.callf (.func 10) [(.tmp 29)]⟩,⟨some 31,(some (27,false)),.un .not (.tmp 30)⟩,⟨some 32,none,.pick (.tmp 27) (.const (.bool true)) (.tmp 31)⟩,⟨some 33,none,.mv (.tmp 32)⟩,⟨some 34,(some (33,false)),.load 3 true (.tmp 5)⟩,⟨some 35,(some (33,false)),.mkrow 41 3 [(.tmp 34)]⟩,⟨some 36,(some (33,false)),.build [(.slice none 0 0),(.slice none 0 0),(.slice none 0 0)] [(2,(1,(.tmp 35)))]⟩,⟨some 37,(some (33,false)),.callf (.func 10) [(.tmp 36)]⟩,⟨some 38,(some (33,false)),.un .not (.tmp 37)⟩,⟨some 39,none,.pick (.tmp 33) (.const (.bool true)) (.tmp 38)⟩,⟨some 40,none,.mv (.tmp 39)⟩,⟨some 41,(some (40,false)),.mv (.tmp 1)⟩,⟨some 42,(some (40,false)),.len false (.tmp 41)⟩,⟨some 43,(some (40,false)),.faddr 0 (.tmp 3)⟩,⟨some 44,(some (40,false)),.load 1 false (.tmp 43)⟩,⟨some 45,(some (40,false)),.len false (.tmp 44)⟩,⟨some 46,(some (40,false)),.bin .neq (.tmp 42) (.tmp 45)⟩,⟨some 47,none,.pick (.tmp 40) (.const (.bool true)) (.tmp 46)⟩,⟨some 48,none,.mv (.tmp 47)⟩,⟨some 49,(some (48,false)),.load 3 true (.tmp 5)⟩,⟨some 50,(some (48,false)),.callf (.func 23) [(.tmp 49)]⟩,⟨some 51,(some (48,false)),.bin .lss (.tmp 50) (.const (.int .i64 (0)))⟩,⟨some 52,none,.pick (.tmp 48) (.const (.bool true)) (.tmp 51)⟩]) (.cond (.tmp 52) (.seq (.reg [⟨some 53,none,.callf (.func 12) []⟩,⟨some 6,none,.mv (.tmp 53)⟩]) .ret) .skip)) (.seq (.reg [⟨some 55,none,.load 3 true (.tmp 3)⟩,⟨some 56,none,.callf (.func 13) [(.tmp 55),(.const (.int .i64 (65536)))]⟩,⟨some 54,none,.mv (.tmp 56)⟩,⟨some 57,none,.ext (.tmp 54) 0⟩,⟨some 58,none,.ext (.tmp 54) 1⟩,⟨some 7,none,.new 30 [(.int .i64 (0)),(.slice none 0 0),(.slice none 0 0),(.slice none 0 0),(.slice none 0 0),(.int .i64 (0))]⟩,⟨none,none,.store 6 (.tmp 7) (.tmp 57)⟩,⟨some 8,none,.mv (.tmp 58)⟩]) (.seq (.seq (.reg [⟨some 59,none,.mv (.tmp 8)⟩,⟨some 60,none,.bin .neq (.tmp 59) (.const (.int .i64 (0)))⟩]) (.cond (.tmp 60) (.seq (.reg [⟨some 6,none,.mv (.const (.bool false))⟩]) .ret) .skip)) (.seq (.seq (.reg [⟨some 61,none,.faddr 0 (.tmp 7)⟩,⟨some 62,none,.load 1 false (.tmp 61)⟩,⟨some 63,none,.bin .neq (.tmp 62) (.const (.int .i64 (1)))⟩]) (.cond (.tmp 63) (.seq (.reg [⟨some 64,none,.callf (.func 12) []⟩,⟨some 6,none,.mv (.tmp 64)⟩]) .ret) .skip)) (.seq (.regn true [⟨some 66,none,.load 3 true (.tmp 3)⟩,⟨some 67,none,.mv (.tmp 1)⟩,⟨some 68,none,.faddr 2 (.tmp 7)⟩,⟨some 69,none,.load 1 false (.tmp 68)⟩,⟨some 70,none,.mv (.tmp 1)⟩,⟨some 71,none,.callf (.func 18) [(.tmp 69),(.tmp 70)]⟩,⟨some 72,none,.load 3 true (.tmp 5)⟩,⟨some 73,none,.callf (.func 25) [(.tmp 71),(.tmp 72)]⟩,⟨some 74,none,.callf (.func 24) [(.tmp 66),(.tmp 67),(.tmp 73)]⟩,⟨some 65,none,.mv (.tmp 74)⟩,⟨some 75,none,.ext (.tmp 65) 0⟩,⟨some 76,none,.ext (.tmp 65) 1⟩,⟨some 9,none,.fill 25 [(.slice none 0 0),(.slice none 0 0),(.slice none 0 0)]⟩,⟨none,none,.store 3 (.tmp 9) (.tmp 75)⟩,⟨some 10,none,.mv (.tmp 76)⟩]) (.seq (.reg [⟨some 78,none,.load 3 true (.tmp 9)⟩,⟨some 79,none,.callf (.func 13) [(.tmp 78),(.const (.int .i64 (65536)))]⟩,⟨some 77,none,.mv (.tmp 79)⟩,⟨some 80,none,.ext (.tmp 77) 0⟩,⟨some 81,none,.ext (.tmp 77) 1⟩,⟨some 11,none,.new 30 [(.int .i64 (0)),(.slice none 0 0),(.slice none 0 0),(.slice none 0 0),(.slice none 0 0),(.int .i64 (0))]⟩,⟨none,none,.store 6 (.tmp 11) (.tmp 80)⟩,⟨some 12,none,.mv (.tmp 81)⟩]) (.seq (.reg [⟨some 82,none,.mv (.tmp 10)⟩,⟨some 83,none,.mv (.tmp 82)⟩,⟨some 84,(some (83,true)),.mv (.tmp 12)⟩,⟨some 85,(some (83,true)),.bin .eql (.tmp 84) (.const (.int .i64 (0)))⟩,⟨some 86,none,.pick (.tmp 83) (.tmp 85) (.const (.bool false))⟩,⟨some 87,none,.mv (.tmp 86)⟩,⟨some 88,(some (87,true)),.faddr 0 (.tmp 11)⟩,⟨some 89,(some (87,true)),.load 1 false (.tmp 88)⟩,⟨some 90,(some (87,true)),.bin .eql (.tmp 89) (.const (.int .i64 (1)))⟩,⟨some 91,none,.pick (.tmp 87) (.tmp 90) (.const (.bool false))⟩,⟨some 92,none,.mv (.tmp 91)⟩,⟨some 93,(some (92,true)),.faddr 2 (.tmp 9)⟩,⟨some 94,(some (92,true)),.load 1 false (.tmp 93)⟩,⟨some 95,(some (92,true)),.faddr 1 (.tmp 11)⟩,⟨some 96,(some (92,true)),.load 1 false (.tmp 95)⟩,⟨some 97,(some (92,true)),.callf (.func 18) [(.tmp 94),(.tmp 96)]⟩,⟨some 98,(some (92,true)),.faddr 2 (.tmp 3)⟩,⟨some 99,(some (92,true)),.load 1 false (.tmp 98)⟩,⟨some 100,(some (92,true)),.faddr 1 (.tmp 7)⟩,⟨some 101,(some (92,true)),.load 1 false (.tmp 100)⟩,⟨some 102,(some (92,true)),.callf (.func 18) [(.tmp 99),(.tmp 101)]⟩,⟨some 103,(some (92,true)),.callf (.func 17) [(.tmp 97),(.tmp 102)]⟩,⟨some 104,(some (92,true)),.bin .eql (.tmp 103) (.const (.int .i64 (0)))⟩,⟨some 105,none,.pick (.tmp 92) (.tmp 104) (.const (.bool false))⟩,⟨some 106,none,.mv (.tmp 105)⟩,⟨some 107,(some (106,true)),.callf (.func 12) []⟩,⟨some 108,none,.pick (.tmp 106) (.tmp 107) (.const (.bool false))⟩,⟨some 6,none,.mv (.tmp 108)⟩]) .ret))))))))
theorem cc6:ccode Try.prog [] (Try.f6.body.getD .skip) = some c6:=by kernel_rfl
theorem body6:Try.f6.body = some (Try.f6.body.getD .skip):=rfl
theorem simplexMore_C (p:PB) (c:VV) (more:RR):PureC Try.prog 6 [aP p,aV c,aR more] (.ret (aB true)):=by
 have hw:=awake12_C
 have hf:=fewP_C p
 have hfc:=fewP_C ⟨none,none,c⟩
 have hfm:=fewP_C ⟨none,none,some [more]⟩
 have en:fewP ⟨none,none,c⟩ = fewB c:=by unfold fewP;rfl
 have em:fewP ⟨none,none,some [more]⟩ = fewB (some [more]):=by unfold fewP;rfl
 rw [en] at hfc
 rw [em] at hfm
 cases c1:fewP p with
 | false =>
  rw [c1] at hf
  refine pureC_of (rs:=[(RV.tmp 6)]) Try.func6 (fun a w=>Try.call6 a w) body6 cc6 (by kernel_rfl) ?_
  rw [Try.ntmps6]
  simp only [frs,nA,nS]
  repeat (first | (with_reducible first | refine Way.imp ?_ | refine blk_o rfl ?_) | ((with_reducible refine WayR.imp (fun K hK=>?_));simp (disch:=first | omega | (simp only [dls];omega)) only [std,reduceIte,reduceCtorEq,iT,nA,nS,nM,iA,iS,iM,iN,fU];subst hK) | refine zcA (hf) rfl rfl rfl ?_ | refine zcA (hw) rfl rfl rfl ?_)
  exact ⟨_,rfl,rfl⟩
 | true =>
 rw [c1] at hf
 have hr:=sright_C p
 cases c2:rightB p with
 | false =>
  rw [c2] at hr
  refine pureC_of (rs:=[(RV.tmp 6)]) Try.func6 (fun a w=>Try.call6 a w) body6 cc6 (by kernel_rfl) ?_
  rw [Try.ntmps6]
  simp only [frs,nA,nS]
  repeat (first | (with_reducible first | refine Way.imp ?_ | refine blk_o rfl ?_) | ((with_reducible refine WayR.imp (fun K hK=>?_));simp (disch:=first | omega | (simp only [dls];omega)) only [std,reduceIte,reduceCtorEq,iT,nA,nS,nM,iA,iS,iM,iN,fU];subst hK) | refine zcA (hf) rfl rfl rfl ?_ | (apply call_any_g (hr) rfl;(case hg=>simp (disch:=first | omega | (simp only [dls];omega)) only [std,reduceIte,reduceCtorEq,iT,nA,nS,nM,iA,iS,iM,iN,fU]);(case hcl=>(simp only [evs,St.ev,constAV,evl];(repeat (first | exact closeAVs_nil | (apply closeAVs_cons;(first | (refine close_own3 rfl (by decide)) | (refine close_ownO rfl (by decide) ?_;assumption) | rfl))));done));(case hu=>rfl)) | refine zcA (hw) rfl rfl rfl ?_)
  exact ⟨_,rfl,rfl⟩
 | true =>
 rw [c2] at hr
 by_cases c7:(osl p.C).length <= 7
 case neg =>
  refine pureC_of (rs:=[(RV.tmp 6)]) Try.func6 (fun a w=>Try.call6 a w) body6 cc6 (by kernel_rfl) ?_
  rw [Try.ntmps6]
  simp only [frs,nA,nS]
  repeat (first | (with_reducible first | refine Way.imp ?_ | refine blk_o rfl ?_) | ((with_reducible refine WayR.imp (fun K hK=>?_));simp (disch:=first | omega | (simp only [dls];omega)) only [std,reduceIte,reduceCtorEq,iT,nA,nS,nM,iA,iS,iM,iN,fU];subst hK) | refine zcA (hf) rfl rfl rfl ?_ | (apply call_any_g (hr) rfl;(case hg=>simp (disch:=first | omega | (simp only [dls];omega)) only [std,reduceIte,reduceCtorEq,iT,nA,nS,nM,iA,iS,iM,iN,fU]);(case hcl=>(simp only [evs,St.ev,constAV,evl];(repeat (first | exact closeAVs_nil | (apply closeAVs_cons;(first | (refine close_own3 rfl (by decide)) | (refine close_ownO rfl (by decide) ?_;assumption) | rfl))));done));(case hu=>rfl)) | refine zcA (hw) rfl rfl rfl ?_)
  exact ⟨_,rfl,rfl⟩
 cases c3:fewB c with
 | false =>
  rw [c3] at hfc
  refine pureC_of (rs:=[(RV.tmp 6)]) Try.func6 (fun a w=>Try.call6 a w) body6 cc6 (by kernel_rfl) ?_
  rw [Try.ntmps6]
  simp only [frs,nA,nS]
  repeat (first | (with_reducible first | refine Way.imp ?_ | refine blk_o rfl ?_) | ((with_reducible refine WayR.imp (fun K hK=>?_));simp (disch:=first | omega | (simp only [dls];omega)) only [std,reduceIte,reduceCtorEq,iT,nA,nS,nM,iA,iS,iM,iN,fU];subst hK) | refine zcA (hf) rfl rfl rfl ?_ | (apply call_any_g (hr) rfl;(case hg=>simp (disch:=first | omega | (simp only [dls];omega)) only [std,reduceIte,reduceCtorEq,iT,nA,nS,nM,iA,iS,iM,iN,fU]);(case hcl=>(simp only [evs,St.ev,constAV,evl];(repeat (first | exact closeAVs_nil | (apply closeAVs_cons;(first | (refine close_own3 rfl (by decide)) | (refine close_ownO rfl (by decide) ?_;assumption) | rfl))));done));(case hu=>rfl)) | (apply call_any_g (hfc) rfl;(case hg=>simp (disch:=first | omega | (simp only [dls];omega)) only [std,reduceIte,reduceCtorEq,iT,nA,nS,nM,iA,iS,iM,iN,fU]);(case hcl=>(simp only [evs,St.ev,constAV,evl];(repeat (first | exact closeAVs_nil | (apply closeAVs_cons;(first | (refine close_own3 rfl (by decide)) | (refine close_ownO rfl (by decide) ?_;assumption) | rfl))));done));(case hu=>rfl)) | refine zcA (hw) rfl rfl rfl ?_)
  exact ⟨_,rfl,rfl⟩
 | true =>
 rw [c3] at hfc
 cases c4:fewB (some [more]) with
 | false =>
  rw [c4] at hfm
  refine pureC_of (rs:=[(RV.tmp 6)]) Try.func6 (fun a w=>Try.call6 a w) body6 cc6 (by kernel_rfl) ?_
  rw [Try.ntmps6]
  simp only [frs,nA,nS]
  repeat (first | (with_reducible first | refine Way.imp ?_ | refine blk_o rfl ?_) | ((with_reducible refine WayR.imp (fun K hK=>?_));simp (disch:=first | omega | (simp only [dls];omega)) only [std,reduceIte,reduceCtorEq,iT,nA,nS,nM,iA,iS,iM,iN,fU,fR];subst hK) | refine zcA (hf) rfl rfl rfl ?_ | (apply call_any_g (hr) rfl;(case hg=>simp (disch:=first | omega | (simp only [dls];omega)) only [std,reduceIte,reduceCtorEq,iT,nA,nS,nM,iA,iS,iM,iN,fU,fR]);(case hcl=>(simp only [evs,St.ev,constAV,evl];(repeat (first | exact closeAVs_nil | (apply closeAVs_cons;(first | (refine close_own3 rfl (by decide)) | (refine close_ownO rfl (by decide) ?_;assumption) | rfl))));done));(case hu=>rfl)) | (apply call_any_g (hfc) rfl;(case hg=>simp (disch:=first | omega | (simp only [dls];omega)) only [std,reduceIte,reduceCtorEq,iT,nA,nS,nM,iA,iS,iM,iN,fU,fR]);(case hcl=>(simp only [evs,St.ev,constAV,evl];(repeat (first | exact closeAVs_nil | (apply closeAVs_cons;(first | (refine close_own3 rfl (by decide)) | (refine close_ownO rfl (by decide) ?_;assumption) | rfl))));done));(case hu=>rfl)) | (apply call_flat_g (by simp (disch:=first | omega | (simp only [dls];omega)) only [std,reduceIte,reduceCtorEq,iT,nA,nS,nM,iA,iS,iM,iN,fU,fR]) (hfm) rfl;(case hcl=>(simp only [evs,St.ev,constAV,evl];(repeat (first | exact closeAVs_nil | (apply closeAVs_cons;(first | (refine close_own3 rfl (by decide)) | (refine close_ownO rfl (by decide) ?_;assumption) | rfl))));done));(case hf=>rfl)) | refine zcA (hw) rfl rfl rfl ?_)
  exact ⟨_,rfl,rfl⟩
 | true =>
 rw [c4] at hfm
 by_cases c5:(osl c).length = (osl p.A).length
 case neg =>
  refine pureC_of (rs:=[(RV.tmp 6)]) Try.func6 (fun a w=>Try.call6 a w) body6 cc6 (by kernel_rfl) ?_
  rw [Try.ntmps6]
  simp only [frs,nA,nS]
  repeat (first | (with_reducible first | refine Way.imp ?_ | refine blk_o rfl ?_) | ((with_reducible refine WayR.imp (fun K hK=>?_));simp (disch:=first | omega | (simp only [dls];omega)) only [std,reduceIte,reduceCtorEq,iT,nA,nS,nM,iA,iS,iM,iN,fU,fR];subst hK) | refine zcA (hf) rfl rfl rfl ?_ | (apply call_any_g (hr) rfl;(case hg=>simp (disch:=first | omega | (simp only [dls];omega)) only [std,reduceIte,reduceCtorEq,iT,nA,nS,nM,iA,iS,iM,iN,fU,fR]);(case hcl=>(simp only [evs,St.ev,constAV,evl];(repeat (first | exact closeAVs_nil | (apply closeAVs_cons;(first | (refine close_own3 rfl (by decide)) | (refine close_ownO rfl (by decide) ?_;assumption) | rfl))));done));(case hu=>rfl)) | (apply call_any_g (hfc) rfl;(case hg=>simp (disch:=first | omega | (simp only [dls];omega)) only [std,reduceIte,reduceCtorEq,iT,nA,nS,nM,iA,iS,iM,iN,fU,fR]);(case hcl=>(simp only [evs,St.ev,constAV,evl];(repeat (first | exact closeAVs_nil | (apply closeAVs_cons;(first | (refine close_own3 rfl (by decide)) | (refine close_ownO rfl (by decide) ?_;assumption) | rfl))));done));(case hu=>rfl)) | (apply call_flat_g (by simp (disch:=first | omega | (simp only [dls];omega)) only [std,reduceIte,reduceCtorEq,iT,nA,nS,nM,iA,iS,iM,iN,fU,fR]) (hfm) rfl;(case hcl=>(simp only [evs,St.ev,constAV,evl];(repeat (first | exact closeAVs_nil | (apply closeAVs_cons;(first | (refine close_own3 rfl (by decide)) | (refine close_ownO rfl (by decide) ?_;assumption) | rfl))));done));(case hf=>rfl)) | refine zcA (hw) rfl rfl rfl ?_)
  exact ⟨_,rfl,rfl⟩
 have fm:Fits more 3:=(fewB_fits c4).2 more (by rw [osl_some];exact List.mem_singleton.2 rfl)
 have hsg:=rsign_C more (fm.mono (by decide))
 have hsl:=sgn_low3 more
 generalize sgn more.top = z at hsg hsl
 by_cases hz:z < 0
 ·refine pureC_of (rs:=[(RV.tmp 6)]) Try.func6 (fun a w=>Try.call6 a w) body6 cc6 (by kernel_rfl) ?_
  rw [Try.ntmps6]
  simp only [frs,nA,nS]
  repeat (first | (with_reducible first | refine Way.imp ?_ | refine blk_o rfl ?_) | ((with_reducible refine WayR.imp (fun K hK=>?_));simp (disch:=first | omega | (simp only [dls];omega)) only [std,reduceIte,reduceCtorEq,iT,nA,nS,nM,iA,iS,iM,iN,fU,fR];subst hK) | refine zcA (hf) rfl rfl rfl ?_ | (apply call_any_g (hr) rfl;(case hg=>simp (disch:=first | omega | (simp only [dls];omega)) only [std,reduceIte,reduceCtorEq,iT,nA,nS,nM,iA,iS,iM,iN,fU,fR]);(case hcl=>(simp only [evs,St.ev,constAV,evl];(repeat (first | exact closeAVs_nil | (apply closeAVs_cons;(first | (refine close_own3 rfl (by decide)) | (refine close_ownO rfl (by decide) ?_;assumption) | rfl))));done));(case hu=>rfl)) | (apply call_any_g (hfc) rfl;(case hg=>simp (disch:=first | omega | (simp only [dls];omega)) only [std,reduceIte,reduceCtorEq,iT,nA,nS,nM,iA,iS,iM,iN,fU,fR]);(case hcl=>(simp only [evs,St.ev,constAV,evl];(repeat (first | exact closeAVs_nil | (apply closeAVs_cons;(first | (refine close_own3 rfl (by decide)) | (refine close_ownO rfl (by decide) ?_;assumption) | rfl))));done));(case hu=>rfl)) | (apply call_flat_g (by simp (disch:=first | omega | (simp only [dls];omega)) only [std,reduceIte,reduceCtorEq,iT,nA,nS,nM,iA,iS,iM,iN,fU,fR]) (hfm) rfl;(case hcl=>(simp only [evs,St.ev,constAV,evl];(repeat (first | exact closeAVs_nil | (apply closeAVs_cons;(first | (refine close_own3 rfl (by decide)) | (refine close_ownO rfl (by decide) ?_;assumption) | rfl))));done));(case hf=>rfl)) | (apply call_any_g (hsg) rfl;(case hg=>simp (disch:=first | omega | (simp only [dls];omega)) only [std,reduceIte,reduceCtorEq,iT,nA,nS,nM,iA,iS,iM,iN,fU,fR]);(case hcl=>(simp only [evs,St.ev,constAV,evl];(repeat (first | exact closeAVs_nil | (apply closeAVs_cons;(first | (refine close_own3 rfl (by decide)) | (refine close_ownO rfl (by decide) ?_;assumption) | rfl))));done));(case hu=>rfl)) | refine zcA (hw) rfl rfl rfl ?_)
  exact ⟨_,rfl,rfl⟩
 have hm0:0 <= more.val:=Rat.not_lt.1 (fun h=>hz (hsl.2 h))
 obtain ⟨fp,f4⟩:=fewP_fits c1
 have fc:=fewB_fits c3
 obtain ⟨r,T,ht⟩:=told p 3 (pfits_few c1 c2)
 have hT:=steps_few f4 (by omega) ht.steps
 have cr:=ht.call 65536 (by decide) (by decide)
 rw [if_pos (by omega)] at cr
 by_cases hv:r.v = 1
 case neg =>
  clear ht
  unfold srV srC at cr
  have hv2:¬ (r.v:Int) = 1:=by omega
  generalize (r.v:Int) = rv at *
  generalize encSl 1 fI (rowO (intsN r.bs)) = cb at *
  refine pureC_of (rs:=[(RV.tmp 6)]) Try.func6 (fun a w=>Try.call6 a w) body6 cc6 (by kernel_rfl) ?_
  rw [Try.ntmps6]
  simp only [frs,nA,nS]
  repeat (first | (with_reducible first | refine Way.imp ?_ | refine blk_o rfl ?_) | ((with_reducible refine WayR.imp (fun K hK=>?_));simp (disch:=first | omega | (simp only [dls];omega)) only [std,reduceIte,reduceCtorEq,iT,nA,nS,nM,iA,iS,iM,iN,fU,fR];subst hK) | refine zcA (hf) rfl rfl rfl ?_ | (apply call_any_g (hr) rfl;(case hg=>simp (disch:=first | omega | (simp only [dls];omega)) only [std,reduceIte,reduceCtorEq,iT,nA,nS,nM,iA,iS,iM,iN,fU,fR]);(case hcl=>(simp only [evs,St.ev,constAV,evl];(repeat (first | exact closeAVs_nil | (apply closeAVs_cons;(first | (refine close_own3 rfl (by decide)) | (refine close_ownO rfl (by decide) ?_;assumption) | rfl))));done));(case hu=>rfl)) | (apply call_any_g (hfc) rfl;(case hg=>simp (disch:=first | omega | (simp only [dls];omega)) only [std,reduceIte,reduceCtorEq,iT,nA,nS,nM,iA,iS,iM,iN,fU,fR]);(case hcl=>(simp only [evs,St.ev,constAV,evl];(repeat (first | exact closeAVs_nil | (apply closeAVs_cons;(first | (refine close_own3 rfl (by decide)) | (refine close_ownO rfl (by decide) ?_;assumption) | rfl))));done));(case hu=>rfl)) | (apply call_flat_g (by simp (disch:=first | omega | (simp only [dls];omega)) only [std,reduceIte,reduceCtorEq,iT,nA,nS,nM,iA,iS,iM,iN,fU,fR]) (hfm) rfl;(case hcl=>(simp only [evs,St.ev,constAV,evl];(repeat (first | exact closeAVs_nil | (apply closeAVs_cons;(first | (refine close_own3 rfl (by decide)) | (refine close_ownO rfl (by decide) ?_;assumption) | rfl))));done));(case hf=>rfl)) | (apply call_any_g (hsg) rfl;(case hg=>simp (disch:=first | omega | (simp only [dls];omega)) only [std,reduceIte,reduceCtorEq,iT,nA,nS,nM,iA,iS,iM,iN,fU,fR]);(case hcl=>(simp only [evs,St.ev,constAV,evl];(repeat (first | exact closeAVs_nil | (apply closeAVs_cons;(first | (refine close_own3 rfl (by decide)) | (refine close_ownO rfl (by decide) ?_;assumption) | rfl))));done));(case hu=>rfl)) | refine zcA (cr) rfl rfl rfl ?_ | refine zcA (hw) rfl rfl rfl ?_)
  exact ⟨_,rfl,rfl⟩
 have k4:∀ m,m <= 4 -> 4 ^ m * (3 + 1) <= 1024 /\ 1 <= 4 ^ m * (3 + 1) /\ 4 ^ m * (4117 + 1) <= 1054208 /\ m * (4 ^ m * (4117 + 1) + 4117 + 1) <= 8989000 /\ 1 <= 4 ^ m * (4117 + 1):=by decide
 obtain ⟨k1,k2,k3,k5,k6⟩:=k4 _ f4
 obtain ⟨_,hYl,_⟩:=prov_lens' ht.prov
 have hYl4:r.Y.length <= 4:=Nat.le_trans hYl f4
 have vY:FitsV (rowV r.Y) 4 1024:=fits_rowV hYl4 (fun q hq=>(ht.fy q hq).mono k1)
 have vc:FitsV c 4 3:=⟨by omega,fc.2⟩
 have hd:=dot_W (rowV r.Y) c 4 1024 3 vY vc (by decide) (by decide) (by decide) (by decide) (by decide) (by decide) (by decide)
 have hdf:=fits_dotW vY vc (by decide) (by decide)
 have had:=radd_C (rawQ (dotV (rowV r.Y) c)) more (fits_rawQ (hdf.mono (by decide))) (fm.mono (by decide))
 rw [rawQ_val] at had
 have hco:FitsQ (dotV (rowV r.Y) c + more.val) 4117:=(hdf.add1 (fm.val (by decide))).mono (by decide)
 have fmk:∀ {v:VV} {n:Nat},FitsV v n 3 -> FitsV v n 4117:=fun h=>h.monoL (by decide)
 have hwi:=with_yes p c (rawQ (dotV (rowV r.Y) c + more.val)) 8 4117 ⟨⟨fp.1.1,fun v hv=>fmk (fp.1.2 v hv)⟩,fmk fp.2.1,fmk fp.2.2⟩ (fmk fc) (fits_rawQ hco) (by decide) (by decide) (by decide) c2 (by omega) c5
 have hdot:dotV (rowV r.Y) c = sumR (osl p.A).length (fun i=>lF r.Y i * qAt c i):=by
  rw [dot_sum]
  unfold vmin
  have hYe:r.Y.length = (osl p.A).length:=by
   rcases ht.prov with ⟨_,_,h3,_⟩ | ⟨h1,_⟩ | ⟨h1,_⟩
   ·exact h3
   ·omega
   ·omega
  rw [len_rowV,hYe,c5,Nat.min_self]
  exact sumR_congr (fun i _=>by rw [qAt_rowV];rfl)
 generalize hcost:rawQ (dotV (rowV r.Y) c + more.val) = cost at *
 have hcv:cost.val = dotV (rowV r.Y) c + more.val:=by rw [<- hcost,rawQ_val]
 have hpf:PFits (withP p c cost) 4117:=by
  refine ⟨wp_right c2 (by omega) c cost,⟨by rw [wp_Al];omega,fun v hv=>?_⟩,?_,?_,by decide,by decide,by rw [wp_Al];exact Nat.le_trans k3 (by decide),by rw [wp_Al];exact k5⟩
  ·obtain ⟨i,hi,rfl⟩:=List.mem_iff_getElem.1 hv
   rw [wp_Al] at hi
   rw [<- mAt_in,wp_At p c cost hi]
   have:=wr_fits (fmk (fp.1.at i)) (((fmk fc).at i)) (by decide)
   exact ⟨Nat.le_trans this.1 (by decide),this.2⟩
  ·rw [wp_B]
   have:=fits_rowV (n:=8) (L:=4117) (by rw [vals_len];exact fp.2.1.1) (vals_fits (fmk fp.2.1) (by decide))
   exact ⟨Nat.le_trans this.1 (by decide),this.2⟩
  ·rw [wp_C]
   exact (wr_fits (fmk fp.2.2) (by rw [<- hcost];exact fits_rawQ hco) (by decide)).2
 obtain ⟨s,U,hs⟩:=told (withP p c cost) 4117 hpf
 have hCl:(osl (withP p c cost).C).length = (osl p.C).length + 1:=by rw [wp_C,len_rowV,wr_len]
 have hU:=steps_few (p:=withP p c cost) (by rw [wp_Al];exact f4) (by omega) hs.steps
 have cs:=hs.call 65536 (by decide) (by decide)
 rw [if_pos (by omega)] at cs
 have hQa:∀ i k,i < (osl p.A).length -> k < (osl p.C).length -> (pfOf (withP p c cost)).a i k = (pfOf p).a i k:=fun i k hi hk=>by
  show qAt (mAt (withP p c cost).A i) k = qAt (mAt p.A i) k
  obtain ⟨_,_,_,l4⟩:=right_len c2
  rw [wp_At p c cost hi,qAt_rowV,wr_at _ _ (by rw [mAt_in hi,l4 i hi];exact hk)]
 obtain ⟨g1,g2⟩:=prov_more (P:=pfOf p) (Q:=pfOf (withP p c cost)) (wp_Al p c cost) hCl hQa (fun i _=>by
   show qAt (withP p c cost).B i = qAt p.B i
   rw [wp_B,qAt_rowV,vals_at]) (fun k hk=>by
   show qAt (withP p c cost).C k = qAt p.C k
   rw [wp_C,qAt_rowV,wr_at _ _ hk]) (by
   have e1:colY (pfOf (withP p c cost)) r.Y (pfOf p).n = dotV (rowV r.Y) c:=by
    rw [hdot]
    unfold colY
    rw [show (pfOf (withP p c cost)).m = (osl p.A).length from wp_Al p c cost]
    refine sumR_congr (fun i hi=>?_)
    show lF r.Y i * qAt (mAt (withP p c cost).A i) (osl p.C).length = _
    obtain ⟨_,_,_,l4⟩:=right_len c2
    rw [wp_At p c cost hi,qAt_rowV]
    have:=wr_last (mAt p.A i) (rAt c i)
    rw [mAt_in hi,l4 i hi,<- mAt_in hi] at this
    rw [this];rfl
   have e2:(pfOf (withP p c cost)).c (pfOf p).n = dotV (rowV r.Y) c + more.val:=by
    show qAt (withP p c cost).C (osl p.C).length = _
    rw [wp_C,qAt_rowV,wr_last,hcv]
   rw [e1,e2]
   grind) ht.prov hv
 obtain ⟨g3,g4⟩:=prov_same g1 hs.prov
 have hsv:s.v = 1:=by rw [<- g3];exact hv
 have hceq:cxP (pfOf (withP p c cost)) s.X = cxP (pfOf p) r.X:=by rw [<- g4 hv];exact g2
 have lr:r.X.length = (osl p.C).length:=(prov_feas ht.prov (by omega)).1
 have ls:s.X.length = (osl (withP p c cost).C).length:=(prov_feas hs.prov (by omega)).1
 have vr1:FitsV (rowV r.X) 8 1024:=fits_rowV (by omega) (fun q hq=>(ht.fx q hq).mono k1)
 have vs1:FitsV (rowV s.X) 8 1054208:=fits_rowV (by omega) (fun q hq=>(hs.fx q hq).mono (by rw [wp_Al];exact k3))
 have vC2:FitsV (withP p c cost).C 8 4117:=⟨by omega,hpf.cf⟩
 have hd1:=dot_W (withP p c cost).C (rowV s.X) 8 4117 1054208 vC2 vs1 (by decide) (by decide) (by decide) (by decide) (by decide) (by decide) (by decide)
 have hd2:=dot_W p.C (rowV r.X) 8 3 1024 fp.2.2 vr1 (by decide) (by decide) (by decide) (by decide) (by decide) (by decide) (by decide)
 have hf2:=fits_dotW fp.2.2 vr1 (by decide) (by decide)
 rw [cx_dot' ls,hceq] at hd1
 rw [cx_dot' lr] at hd2 hf2
 generalize cxP (pfOf p) r.X = z2 at hd1 hd2 hf2
 have hcm:=rcompare_C (rawQ z2) (rawQ z2) (fits_rawQ (hf2.mono (by decide))) (fits_rawQ (hf2.mono (by decide)))
 have hc0:cmpQ (rawQ z2).val (rawQ z2).val = 0:=by
  have h1:¬ 0 < cmpQ (rawQ z2).val (rawQ z2).val:=fun h=>absurd ((cmpQ_pos _ _).1 h) (Rat.not_lt.2 Rat.le_refl)
  have h2:¬ cmpQ (rawQ z2).val (rawQ z2).val < 0:=fun h=>absurd ((cmpQ_neg _ _).1 h) (Rat.not_lt.2 Rat.le_refl)
  omega
 rw [hc0] at hcm
 unfold srV srC at cr cs
 rw [hv] at cr
 rw [hsv] at cs
 clear ht hs g1 g2 g3 g4 hQa hpf vC2 vs1 vr1
 generalize encSl 1 fI (rowO (intsN r.bs)) = cb at *
 generalize encSl 1 fI (rowO (intsN s.bs)) = db at *
 generalize hW:withP p c cost = W at *
 obtain ⟨WA,WB,WC⟩:=W
 change PureC _ _ _ (.ret (.tup [.agg [.c (encSl 1 fM WA),.c (vr WB),.c (vr WC)],aB true])) at hwi
 refine pureC_of (rs:=[(RV.tmp 6)]) Try.func6 (fun a w=>Try.call6 a w) body6 cc6 (by kernel_rfl) ?_
 rw [Try.ntmps6]
 simp only [frs,nA,nS]
 repeat (first | (with_reducible first | refine Way.imp ?_ | refine blk_o rfl ?_) | ((with_reducible refine WayR.imp (fun K hK=>?_));simp (disch:=first | omega | (simp only [dls];omega)) only [std,reduceIte,reduceCtorEq,iT,nA,nS,nM,iA,iS,iM,iN,fU,fR];subst hK) | refine zcA (hf) rfl rfl rfl ?_ | (apply call_any_g (hr) rfl;(case hg=>simp (disch:=first | omega | (simp only [dls];omega)) only [std,reduceIte,reduceCtorEq,iT,nA,nS,nM,iA,iS,iM,iN,fU,fR]);(case hcl=>(simp only [evs,St.ev,constAV,evl];(repeat (first | exact closeAVs_nil | (apply closeAVs_cons;(first | (refine close_own3 rfl (by decide)) | (refine close_ownO rfl (by decide) ?_;assumption) | rfl))));done));(case hu=>rfl)) | (apply call_any_g (hfc) rfl;(case hg=>simp (disch:=first | omega | (simp only [dls];omega)) only [std,reduceIte,reduceCtorEq,iT,nA,nS,nM,iA,iS,iM,iN,fU,fR]);(case hcl=>(simp only [evs,St.ev,constAV,evl];(repeat (first | exact closeAVs_nil | (apply closeAVs_cons;(first | (refine close_own3 rfl (by decide)) | (refine close_ownO rfl (by decide) ?_;assumption) | rfl))));done));(case hu=>rfl)) | (apply call_flat_g (by simp (disch:=first | omega | (simp only [dls];omega)) only [std,reduceIte,reduceCtorEq,iT,nA,nS,nM,iA,iS,iM,iN,fU,fR]) (hfm) rfl;(case hcl=>(simp only [evs,St.ev,constAV,evl];(repeat (first | exact closeAVs_nil | (apply closeAVs_cons;(first | (refine close_own3 rfl (by decide)) | (refine close_ownO rfl (by decide) ?_;assumption) | rfl))));done));(case hf=>rfl)) | (apply call_any_g (hsg) rfl;(case hg=>simp (disch:=first | omega | (simp only [dls];omega)) only [std,reduceIte,reduceCtorEq,iT,nA,nS,nM,iA,iS,iM,iN,fU,fR]);(case hcl=>(simp only [evs,St.ev,constAV,evl];(repeat (first | exact closeAVs_nil | (apply closeAVs_cons;(first | (refine close_own3 rfl (by decide)) | (refine close_ownO rfl (by decide) ?_;assumption) | rfl))));done));(case hu=>rfl)) | refine zcA (cr) rfl rfl rfl ?_ | refine zcA (hd) rfl rfl rfl ?_ | refine zcA (had) rfl rfl rfl ?_ | refine zcA (hwi) rfl rfl rfl ?_ | refine zcA (cs) rfl rfl rfl ?_ | (apply call_any_g (hd1) rfl;(case hg=>simp (disch:=first | omega | (simp only [dls];omega)) only [std,reduceIte,reduceCtorEq,iT,nA,nS,nM,iA,iS,iM,iN,fU,fR]);(case hcl=>(simp only [evs,St.ev,constAV,evl];(repeat (first | exact closeAVs_nil | (apply closeAVs_cons;(first | (refine close_own3 rfl (by decide)) | (refine close_ownO rfl (by decide) ?_;assumption) | rfl))));done));(case hu=>rfl)) | (apply call_any_g (hd2) rfl;(case hg=>simp (disch:=first | omega | (simp only [dls];omega)) only [std,reduceIte,reduceCtorEq,iT,nA,nS,nM,iA,iS,iM,iN,fU,fR]);(case hcl=>(simp only [evs,St.ev,constAV,evl];(repeat (first | exact closeAVs_nil | (apply closeAVs_cons;(first | (refine close_own3 rfl (by decide)) | (refine close_ownO rfl (by decide) ?_;assumption) | rfl))));done));(case hu=>rfl)) | (apply call_any_g (hcm) rfl;(case hg=>simp (disch:=first | omega | (simp only [dls];omega)) only [std,reduceIte,reduceCtorEq,iT,nA,nS,nM,iA,iS,iM,iN,fU,fR]);(case hcl=>(simp only [evs,St.ev,constAV,evl];(repeat (first | exact closeAVs_nil | (apply closeAVs_cons;(first | (refine close_own3 rfl (by decide)) | (refine close_ownO rfl (by decide) ?_;assumption) | rfl))));done));(case hu=>rfl)) | (apply call_any_g (hw) rfl;(case hg=>simp (disch:=first | omega | (simp only [dls];omega)) only [std,reduceIte,reduceCtorEq,iT,nA,nS,nM,iA,iS,iM,iN,fU,fR]);(case hcl=>(simp only [evs,St.ev,constAV,evl];(repeat (first | exact closeAVs_nil | (apply closeAVs_cons;(first | (refine close_own3 rfl (by decide)) | (refine close_ownO rfl (by decide) ?_;assumption) | rfl))));done));(case hu=>rfl)))
 exact ⟨_,rfl,rfl⟩
end Go.Proofs.Ytncgbjhojbnecaa
