/- Walks of simplex: column and square of a table that nobody writes. -/
import Derived.Test.YtncgbjhojbnecaaSC
import Derived.Test.YtncgbjhojbnecaaSV
set_option linter.unusedSimpArgs false
set_option linter.unusedVariables false
set_option linter.unnecessarySimpa false
set_option maxRecDepth 100000
set_option maxHeartbeats 4000000
namespace Go.Proofs.Ytncgbjhojbnecaa
open Go Go.Am Go.Proofs Go.RowKit Go.Off
open Nat renaming reduceAdd -> nA,reduceSub -> nS,reduceMul -> nM,reduceBEq -> nB
open Int renaming reduceToNat -> iT,reduceAdd -> iA,reduceSub -> iS,reduceMul -> iM,reduceNeg -> iN
theorem column_P (S:SD) (L:Nat) (hS:SFits S L) (k:Nat) (hk:k < S.n + S.m) (mn bc:CV) (st bu:Int) (wk:CV) :
  PureC Try.prog 88 [aTc S mn bc st bu wk,aI k] (.ret (aV (rowV (colL S k)))):=by
 have hnb:=hS.nb
 have hmb:=hS.mb
 have hcl:=hS.cl
 have hcols:(osl (colsM S)).length = S.n:=by rw [osl_colsM,List.length_map];exact hcl
 by_cases h:S.n <= k
 ·have hu:=unit_C S.m (k - S.n) (by omega) (by omega)
  have e:colL S k = unitL S.m (k - S.n):=if_pos h
  rw [e]
  have hs:(k:Int) - (S.n:Int) = ((k - S.n:Nat):Int):=by omega
  refine pureC_of (rs:=[(RV.tmp 4)]) Try.func88 (fun a w=>Try.call88 a w) body88 cc88 (by kernel_rfl) ?_
  rw [Try.ntmps88]
  simp only [frs,nA,nS]
  repeat (first | (with_reducible first | refine Way.imp ?_ | refine blk_o rfl ?_) | ((with_reducible refine WayR.imp (fun K hK=>?_));simp (disch:=first | omega | (simp only [dls];omega)) only [std,reduceIte,reduceCtorEq,iT,nA,nS,nM,iA,iS,iM,iN,fU,hs];subst hK) | refine zcA (hu) rfl rfl rfl ?_)
  exact ⟨_,rfl,rfl⟩
 ·have e:colL S k = S.cols.getD k []:=if_neg h
  have hk2:k < (osl (colsM S)).length:=by omega
  rw [e,<- colsM_at hk2]
  refine pureC_of (rs:=[(RV.tmp 4)]) Try.func88 (fun a w=>Try.call88 a w) body88 cc88 (by kernel_rfl) ?_
  rw [Try.ntmps88]
  simp only [frs,nA,nS]
  repeat (first | (with_reducible first | refine Way.imp ?_ | refine blk_o rfl ?_) | ((with_reducible refine WayR.imp (fun K hK=>?_));simp (disch:=first | omega | (simp only [dls];omega)) only [std,reduceIte,reduceCtorEq,iT,nA,nS,nM,iA,iS,iM,iN,fU,fM];subst hK))
  exact ⟨_,rfl,rfl⟩
theorem square_P (S:SD) (L:Nat) (hS:SFits S L) (bs:List Nat) (bl:Option (List Int)) (hob:osl bl = intsN bs) (hb:BsL S bs) (mn:CV) (st bu:Int) (wk:CV) :
  PureC Try.prog 64 [aTc S mn (encSl 1 fI bl) st bu wk] (.ret (aM (mL (sqL S bs)))):=by
 have hol:(osl bl).length = bs.length:=by rw [hob,intsN_length]
 have hm:=hS.mb
 have hb1:=hb.1
 have hcol:=fun k hk=>column_P S L hS k hk mn (encSl 1 fI bl) st bu wk
 refine PureC.fresh_rowO (ty:=23) (l:=(sqL S bs).map rowV) ?_
 refine pureC_of (rs:=[(RV.tmp 2)]) Try.func64 (fun a w=>Try.call64 a w) body64 cc64 (by kernel_rfl) ?_
 rw [Try.ntmps64]
 simp only [frs,nA,nS]
 repeat (first | (with_reducible first | refine Way.imp ?_ | refine blk_o rfl ?_) | ((with_reducible refine WayR.imp (fun K hK=>?_));simp (disch:=first | omega | (simp only [dls];omega)) only [std,reduceIte,reduceCtorEq,iT,nA,nS,nM,iA,iS,iM,iN,fU];subst hK))
 refine AWp.fgt ?_ (Fgt.openNil (i:=3) rfl 23 1)
 simp only [List.set_cons_succ,List.set_cons_zero,List.length_nil,List.length_cons,List.nil_append,List.cons_append,nA]
 refine awp_loop (fun (zz:Nat × (List VV) × Nat × Bool)=>⟨(aTc S mn (encSl 1 fI bl) st bu wk :: .junk :: .junk :: .one (.own 0 zz.2.2.1) :: .junk :: .junk :: .junk :: .junk :: .junk :: aIs bl :: aI bs.length :: aI zz.1 :: .junk :: .junk :: .junk :: .junk :: .junk :: .junk :: .junk :: .junk :: .junk :: .junk :: .junk :: []),[⟨zz.2.2.1,23,1,encB fM zz.2.1,true,zz.2.2.2⟩]⟩) (fun (zz:Nat × (List VV) × Nat × Bool)=>zz.1 <= bs.length /\ zz.2.1 = (sqTo S bs zz.1).map rowV /\ zz.2.2.2 = !zz.2.1.isEmpty) (fun (zz:Nat × (List VV) × Nat × Bool)=>bs.length - zz.1) (0,[],0,false) ?hI1 (Fgt.head (Nat.zero_le 1) [true,false,false,true,false,false,false,false,false,true,true,true] ?hT1 ?hH1) ?hB1
 case hT1=>first | (simp (disch:=omega) only [hds,liveT,cleanAV,cleanCell,clean1,cleanBlk,reduceIte,iS,iA,iN,encB_nil,hol];done) | rfl
 case hH1=>first | (simp (disch:=omega) only [hds,liveT,cleanAV,cleanCell,clean1,cleanBlk,reduceIte,iS,iA,iN,encB_nil,hol];done) | rfl
 ·dsimp only;exact ⟨Nat.zero_le _,rfl,rfl⟩
 rintro ⟨i,out,u,nn⟩ ⟨hi,ho,hnn⟩
 dsimp only at hi ho hnn
 by_cases him:i = bs.length
 ·repeat (first | (with_reducible first | refine Way.imp ?_ | refine blk_o rfl ?_) | ((with_reducible refine WayR.imp (fun K hK=>?_));simp (disch:=first | omega | (simp only [dls];omega)) only [std,reduceIte,reduceCtorEq,iT,nA,nS,nM,iA,iS,iM,iN,fU];subst hK))
  refine ⟨_,rfl,?_⟩
  rw [him,sqTo_all] at ho
  rw [<- ho,<- hnn]
  exact Ends.fresh_enc rfl
 ·have hlt:i < bs.length:=by omega
  have hi1:i < (osl bl).length:=by omega
  have hgi:(osl bl)[i] = ((bs.getD i 0:Nat):Int):=by rw [List.getElem_of_eq hob];exact intsN_get (by rw [intsN_length];exact hlt)
  have hcc:=hcol (bs.getD i 0) (hb.2 i hlt)
  have hout:out.length = i:=by rw [ho,List.length_map];unfold sqTo;rw [List.length_map,List.length_range]
  have hsn:encB fM out ++ [[Cell.c (vr (rowV (colL S (bs.getD i 0))))]] = encB fM (out ++ [rowV (colL S (bs.getD i 0))]):=by rw [<- encB_append];rfl
  repeat (first | (with_reducible first | refine Way.imp ?_ | refine blk_o rfl ?_) | ((with_reducible refine WayR.imp (fun K hK=>?_));simp (disch:=first | omega | (simp only [dls];omega)) only [std,reduceIte,reduceCtorEq,iT,nA,nS,nM,iA,iS,iM,iN,fU,hgi,fI,hsn];subst hK) | refine zcA (hcc) rfl rfl rfl ?_)
  refine ⟨(i + 1,out ++ [rowV (colL S (bs.getD i 0))],u + 1,true),?hI2,?hM2,Fgt.head (Nat.zero_le 1) [true,false,false,true,false,false,false,false,false,true,true,true] ?hT2 ?hH2⟩
  case hT2=>first | (simp (disch:=omega) only [hds,liveT,cleanAV,cleanCell,clean1,cleanBlk,reduceIte,iS,iA,iN,List.isEmpty_cons,Bool.or_true,Bool.not_false];done) | rfl
  case hH2=>first | (simp (disch:=omega) only [hds,liveT,cleanAV,cleanCell,clean1,cleanBlk,reduceIte,iS,iA,iN,List.isEmpty_cons,Bool.or_true,Bool.not_false];done) | rfl
  ·dsimp only;refine ⟨by omega,by rw [ho,sqTo_succ,List.map_append];rfl,by cases out <;> rfl⟩
  ·dsimp only;omega
def plB (n:Nat) (l:List Int) (j:Nat):Bool:=decide (0 <= l.getD j 0) && (decide (l.getD j 0 < n) && !(l.take j).contains (l.getD j 0))
def plTo (n:Nat) (l:List Int) (i:Nat):Bool:=(List.range i).all (plB n l)
theorem plTo_succ (n:Nat) (l:List Int) (i:Nat):plTo n l (i + 1) = (plTo n l i && plB n l i):=by unfold plTo;rw [List.range_succ,List.all_append];simp
theorem plTo_false {n:Nat} {l:List Int} {i m:Nat} (hi:i < m) (h:plB n l i = false):plTo n l m = false:=by
 unfold plTo
 rw [List.all_eq_false]
 exact ⟨i,List.mem_range.2 hi,by simp [h]⟩
theorem plTo_at {n:Nat} {l:List Int} {i m:Nat} (h:plTo n l m = true) (hi:i < m):plB n l i = true:=List.all_eq_true.1 h i (List.mem_range.2 hi)
def natsOf (l:List Int):List Nat:=l.map Int.toNat
def cornP (p:PB) (l:List Int):Bool:=rightB p && (decide (l.length = (osl p.A).length) && plTo (osl p.C).length l l.length)
def cornX (p:PB) (l:List Int):List Rat:=spreadL (sdB p) (natsOf l) (xL (sdB p) (natsOf l))
def cornS (p:PB) (l:List Int):Bool:=sqOk (augL (turnL (sdB p).m (sqL (sdB p) (natsOf l))) (sdB p).b) (sdB p).m && doesB p (rowV (cornX p l))
def cornV (p:PB) (l:List Int):AV:=if cornP p l && cornS p l then .tup [aV (rowV (cornX p l)),aB true] else .tup [aV none,aB false]
theorem natsOf_is {n:Nat} {l:List Int} (h:plTo n l l.length = true):l = intsN (natsOf l):=by
 unfold intsN natsOf
 rw [List.map_map]
 refine List.ext_getElem (by rw [List.length_map]) (fun i h1 h2=>?_)
 have:=plTo_at h h1
 unfold plB at this
 simp only [Bool.and_eq_true,decide_eq_true_eq] at this
 have h3:=this.1
 rw [List.getD_eq_getElem?_getD,List.getElem?_eq_getElem h1] at h3
 rw [List.getElem_map]
 show l[i] = ((l[i].toNat:Nat):Int)
 have h4:0 <= l[i]:=h3
 omega
theorem natsOf_bsl {p:PB} {l:List Int} (hl:l.length = (osl p.A).length) (h:plTo (osl p.C).length l l.length = true):BsL (sdB p) (natsOf l) /\ ∀ j,j < (natsOf l).length -> (natsOf l).getD j 0 < (osl p.C).length:=by
 have hlen:(natsOf l).length = l.length:=by unfold natsOf;rw [List.length_map]
 have key:∀ j,j < (natsOf l).length -> (natsOf l).getD j 0 < (osl p.C).length:=fun j hj=>by
  have hj':j < l.length:=by omega
  have:=plTo_at h hj'
  unfold plB at this
  simp only [Bool.and_eq_true,decide_eq_true_eq] at this
  have e:(natsOf l).getD j 0 = (l.getD j 0).toNat:=getD_map0 l Int.toNat j 0 0 hj'
  rw [e]
  omega
 exact ⟨⟨by rw [hlen,hl];rfl,fun j hj=>by have:=key j hj;show _ < (osl p.C).length + _;omega⟩,key⟩
abbrev c27_k1:CC:=(.seq (.reg [⟨some 47,none,.load 3 true (.tmp 2)⟩,⟨some 48,none,.callf (.func 39) [(.tmp 47),(.const (.int .i64 (0)))]⟩,⟨some 8,none,.mv (.tmp 48)⟩]) (.seq (.reg [⟨some 49,none,.mv (.tmp 8)⟩,⟨some 50,none,.mv (.tmp 1)⟩,⟨some 51,none,.callf (.func 42) [(.tmp 50)]⟩,⟨some 52,none,.faddr 0 (.tmp 49)⟩,⟨some 53,none,.faddr 5 (.tmp 52)⟩,⟨none,none,.store 1 (.tmp 53) (.tmp 51)⟩]) (.seq (.reg [⟨some 55,none,.mv (.tmp 8)⟩,⟨some 56,none,.callf (.func 64) [(.tmp 55)]⟩,⟨some 57,none,.callf (.func 31) [(.tmp 56)]⟩,⟨some 58,none,.mv (.tmp 8)⟩,⟨some 59,none,.faddr 0 (.tmp 58)⟩,⟨some 60,none,.faddr 3 (.tmp 59)⟩,⟨some 61,none,.load 1 false (.tmp 60)⟩,⟨some 62,none,.callf (.func 30) [(.tmp 57),(.tmp 61)]⟩,⟨some 54,none,.mv (.tmp 62)⟩,⟨some 63,none,.ext (.tmp 54) 0⟩,⟨some 64,none,.ext (.tmp 54) 1⟩,⟨some 9,none,.mv (.tmp 63)⟩,⟨some 10,none,.mv (.tmp 64)⟩]) (.seq (.seq (.reg [⟨some 65,none,.mv (.tmp 10)⟩,⟨some 66,none,.bin .neq (.tmp 65) (.const (.int .i64 (0)))⟩]) (.cond (.tmp 66) (.seq (.reg [⟨some 4,none,.mv (.const (.slice none 0 0))⟩,⟨some 5,none,.mv (.const (.bool false))⟩]) .ret) .skip)) (.seq (.reg [⟨some 67,none,.mv (.tmp 8)⟩,⟨some 68,none,.mv (.tmp 9)⟩,⟨some 69,none,.callf (.func 65) [(.tmp 67),(.tmp 68)]⟩,⟨some 11,none,.mv (.tmp 69)⟩]) (.seq (.seq (.reg [⟨some 70,none,.load 3 true (.tmp 2)⟩,⟨some 71,none,.mv (.tmp 11)⟩,⟨some 72,none,.callf (.func 26) [(.tmp 70),(.tmp 71)]⟩,⟨some 73,none,.un .not (.tmp 72)⟩]) (.cond (.tmp 73) (.seq (.reg [⟨some 4,none,.mv (.const (.slice none 0 0))⟩,⟨some 5,none,.mv (.const (.bool false))⟩]) .ret) .skip)) (.seq (.reg [⟨some 74,none,.mv (.tmp 11)⟩,⟨some 4,none,.mv (.tmp 74)⟩,⟨some 5,none,.mv (.const (.bool true))⟩]) .ret)))))))
abbrev c27_b1:CC:=(.seq (.reg [⟨some 26,none,.bin .lss (.tmp 25) (.tmp 24)⟩]) (.seq (.cond (.tmp 26) .skip (.exit 0)) (.seq (.block 1 (.seq (.reg [⟨some 27,none,.mv (.tmp 25)⟩,⟨some 28,none,.iaddr 1 none (.tmp 23) (.tmp 25)⟩,⟨some 29,none,.load 1 false (.tmp 28)⟩,⟨some 6,none,.mv (.tmp 27)⟩,⟨some 7,none,.mv (.tmp 29)⟩]) (.seq (.reg [⟨some 30,none,.mv (.tmp 7)⟩,⟨some 31,none,.bin .lss (.tmp 30) (.const (.int .i64 (0)))⟩,⟨some 32,none,.mv (.tmp 31)⟩,⟨some 33,(some (32,false)),.mv (.tmp 7)⟩,⟨some 34,(some (32,false)),.faddr 2 (.tmp 2)⟩,⟨some 35,(some (32,false)),.load 1 false (.tmp 34)⟩,⟨some 36,(some (32,false)),.len false (.tmp 35)⟩,⟨some 37,(some (32,false)),.bin .geq (.tmp 33) (.tmp 36)⟩,⟨some 38,none,.pick (.tmp 32) (.const (.bool true)) (.tmp 37)⟩,⟨some 39,none,.mv (.tmp 38)⟩,⟨some 40,(some (39,false)),.mv (.tmp 1)⟩,⟨some 41,(some (39,false)),.mv (.tmp 6)⟩,⟨some 42,(some (39,false)),.slice 1 (.tmp 40) none (some (.tmp 41)) none⟩,⟨some 43,(some (39,false)),.mv (.tmp 7)⟩,⟨some 44,(some (39,false)),.callf (.func 63) [(.tmp 42),(.tmp 43)]⟩,⟨some 45,none,.pick (.tmp 39) (.const (.bool true)) (.tmp 44)⟩]) (.cond (.tmp 45) (.seq (.reg [⟨some 4,none,.mv (.const (.slice none 0 0))⟩,⟨some 5,none,.mv (.const (.bool false))⟩]) .ret) .skip)))) (.reg [⟨some 46,none,.bin .add (.tmp 25) (.const (.int .i64 (1)))⟩,⟨some 25,none,.mv (.tmp 46)⟩]))))
abbrev c27:CC:=(.seq (.reg [⟨some 2,none,.box 25 (.tmp 0)⟩,⟨some 4,none,.mv (.const (.slice none 0 0))⟩,⟨some 5,none,.mv (.const (.bool false))⟩]) (.seq (.seq (.reg [⟨some 12,none,.load 3 true (.tmp 2)⟩,⟨some 13,none,.callf (.func 11) [(.tmp 12)]⟩,⟨some 14,none,.un .not (.tmp 13)⟩,⟨some 15,none,.mv (.tmp 14)⟩,⟨some 16,(some (15,false)),.mv (.tmp 1)⟩,⟨some 17,(some (15,false)),.len false (.tmp 16)⟩,⟨some 18,(some (15,false)),.faddr 0 (.tmp 2)⟩,⟨some 19,(some (15,false)),.load 1 false (.tmp 18)⟩,⟨some 20,(some (15,false)),.len false (.tmp 19)⟩,⟨some 21,(some (15,false)),.bin .neq (.tmp 17) (.tmp 20)⟩,⟨some 22,none,.pick (.tmp 15) (.const (.bool true)) (.tmp 21)⟩]) (.cond (.tmp 22) (.seq (.reg [⟨some 4,none,.mv (.const (.slice none 0 0))⟩,⟨some 5,none,.mv (.const (.bool false))⟩]) .ret) .skip)) (.seq (.seq (.reg [⟨some 23,none,.mv (.tmp 1)⟩,⟨some 24,none,.len false (.tmp 23)⟩,⟨some 25,none,.mv (.const (.int .i64 (0)))⟩]) (.block 0 (.loop c27_b1))) c27_k1)))
theorem cc27:ccode Try.prog [39] (Try.f27.body.getD .skip) = some c27:=by kernel_rfl
theorem body27:Try.f27.body = some (Try.f27.body.getD .skip):=rfl
theorem corner_C (p:PB) (b:Option (List Int)) (hbl:(osl b).length <= 1000000) (hf:fewP p = true):PureC Try.prog 27 [aP p,aIs b] (.ret (cornV p (osl b))):=by
 have hr:=sright_C p
 obtain ⟨fp,f4⟩:=fewP_fits hf
 unfold cornV cornP
 cases c2:rightB p with
 | false =>
  rw [c2] at hr
  refine pureC_of (rs:=[(RV.tmp 4),(RV.tmp 5)]) Try.func27 (fun a w=>Try.call27 a w) body27 cc27 (by kernel_rfl) ?_
  rw [Try.ntmps27]
  simp only [frs,nA,nS]
  repeat (first | (with_reducible first | refine Way.imp ?_ | refine blk_o rfl ?_) | ((with_reducible refine WayR.imp (fun K hK=>?_));simp (disch:=first | omega | (simp only [dls];omega)) only [std,reduceIte,reduceCtorEq,iT,nA,nS,nM,iA,iS,iM,iN,fU];subst hK) | refine zcA (hr) rfl rfl rfl ?_)
  exact ⟨_,rfl,rfl⟩
 | true =>
 rw [c2] at hr
 rw [Bool.true_and]
 by_cases c3:(osl b).length = (osl p.A).length
 case neg =>
  rw [decide_eq_false c3]
  refine pureC_of (rs:=[(RV.tmp 4),(RV.tmp 5)]) Try.func27 (fun a w=>Try.call27 a w) body27 cc27 (by kernel_rfl) ?_
  rw [Try.ntmps27]
  simp only [frs,nA,nS]
  repeat (first | (with_reducible first | refine Way.imp ?_ | refine blk_o rfl ?_) | ((with_reducible refine WayR.imp (fun K hK=>?_));simp (disch:=first | omega | (simp only [dls];omega)) only [std,reduceIte,reduceCtorEq,iT,nA,nS,nM,iA,iS,iM,iN,fU];subst hK) | refine zcA (hr) rfl rfl rfl ?_)
  exact ⟨_,rfl,rfl⟩
 rw [decide_eq_true c3,Bool.true_and]
 have hp:=pfits_few hf c2
 have hS:=hp.sd
 have hC8:(osl p.C).length <= 8:=fp.2.2.1
 refine pureC_of (rs:=[(RV.tmp 4),(RV.tmp 5)]) Try.func27 (fun a w=>Try.call27 a w) body27 cc27 (by kernel_rfl) ?_
 rw [Try.ntmps27]
 simp only [frs,nA,nS]
 repeat (first | (with_reducible first | refine Way.imp ?_ | refine blk_o rfl ?_) | ((with_reducible refine WayR.imp (fun K hK=>?_));simp (disch:=first | omega | (simp only [dls];omega)) only [std,reduceIte,reduceCtorEq,iT,nA,nS,nM,iA,iS,iM,iN,fU];subst hK) | refine zcA (hr) rfl rfl rfl ?_)
 refine awp_loop (fun (zz:Nat)=>⟨(.junk :: aIs b :: .one (.ptr 0 0 0 0) :: .junk :: .junk :: .junk :: .junk :: .junk :: .junk :: .junk :: .junk :: .junk :: .junk :: .junk :: .junk :: .junk :: .junk :: .junk :: .junk :: .junk :: .junk :: .junk :: .junk :: aIs b :: aI (osl b).length :: aI zz :: .junk :: .junk :: .junk :: .junk :: .junk :: .junk :: .junk :: .junk :: .junk :: .junk :: .junk :: .junk :: .junk :: .junk :: .junk :: .junk :: .junk :: .junk :: .junk :: .junk :: .junk :: .junk :: .junk :: .junk :: .junk :: .junk :: .junk :: .junk :: .junk :: .junk :: .junk :: .junk :: .junk :: .junk :: .junk :: .junk :: .junk :: .junk :: .junk :: .junk :: .junk :: .junk :: .junk :: .junk :: .junk :: .junk :: .junk :: .junk :: .junk :: []),[⟨0,25,3,[[.c (encSl 1 fM p.A),.c (vr p.B),.c (vr p.C)]],true,true⟩]⟩) (fun (zz:Nat)=>zz <= (osl b).length /\ plTo (osl p.C).length (osl b) zz = true) (fun (zz:Nat)=>(osl b).length - zz) (0) ?hI1 (Fgt.head (Nat.zero_le 1) [false,true,true,false,false,false,false,false,false,false,false,false,false,false,false,false,false,false,false,false,false,false,false,true,true,true] ?hT1 ?hH1) ?hB1
 case hT1=>first | (simp (disch:=omega) only [hds,liveT,cleanAV,cleanCell,clean1,cleanBlk_mk,reduceIte,iS,iA,iN];done) | rfl
 case hH1=>first | (simp (disch:=omega) only [hds,liveT,cleanAV,cleanCell,clean1,cleanBlk_mk,reduceIte,iS,iA,iN];done) | rfl
 ·exact ⟨Nat.zero_le _,rfl⟩
 rintro i ⟨hi,hs⟩
 by_cases him:i = (osl b).length
 case neg =>
  have hlt:i < (osl b).length:=by omega
  cases b with
  | none=>exact absurd hlt (Nat.not_lt_zero _)
  | some l =>
  rw [osl_some] at *
  have hg:l.getD i 0 = l[i]:=by rw [List.getD_eq_getElem?_getD,List.getElem?_eq_getElem hlt];rfl
  have hct:=contains_I (some (l.take i)) l[i] (by rw [osl_some,List.length_take];omega)
  rw [osl_some] at hct
  have hpl:plB (osl p.C).length l i = (decide (0 <= l[i]) && (decide (l[i] < (osl p.C).length) && !(l.take i).contains l[i])):=by unfold plB;rw [hg]
  have hbad:plB (osl p.C).length l i = false -> (if (plTo (osl p.C).length l l.length && cornS p l) = true then AV.tup [aV (rowV (cornX p l)),aB true] else AV.tup [aV none,aB false]) = AV.tup [aV none,aB false]:=fun h=>by
   rw [plTo_false hlt h];rfl
  by_cases h0:0 <= l[i]
  ·by_cases h1:l[i] < (osl p.C).length
   ·cases h2:(l.take i).contains l[i] with
    | false =>
     rw [h2] at hct hpl
     rw [decide_eq_true h0,decide_eq_true h1] at hpl
     repeat (first | (with_reducible first | refine Way.imp ?_ | refine blk_o rfl ?_) | ((with_reducible refine WayR.imp (fun K hK=>?_));simp (disch:=first | omega | (simp only [dls];omega)) only [std,reduceIte,reduceCtorEq,iT,nA,nS,nM,iA,iS,iM,iN,fU,fI];subst hK) | (apply call_any_g (hct) rfl;(case hg=>simp (disch:=first | omega | (simp only [dls];omega)) only [std,reduceIte,reduceCtorEq,iT,nA,nS,nM,iA,iS,iM,iN,fU,fI]);(case hcl=>(simp only [evs,St.ev,constAV,evl];(repeat (first | exact closeAVs_nil | (apply closeAVs_cons;(first | (refine close_own3 rfl (by decide)) | (refine close_ownO rfl (by decide) ?_;assumption) | rfl))));done));(case hu=>rfl)))
     refine ⟨(i + 1),?hI2,?hM2,Fgt.head (Nat.zero_le 1) [false,true,true,false,false,false,false,false,false,false,false,false,false,false,false,false,false,false,false,false,false,false,false,true,true,true] ?hT2 ?hH2⟩
     case hT2=>first | (simp (disch:=omega) only [hds,liveT,cleanAV,cleanCell,clean1,cleanBlk_mk,reduceIte,iS,iA,iN];done) | rfl
     case hH2=>first | (simp (disch:=omega) only [hds,liveT,cleanAV,cleanCell,clean1,cleanBlk_mk,reduceIte,iS,iA,iN];done) | rfl
     ·exact ⟨hlt,by rw [plTo_succ,hs,hpl];rfl⟩
     ·show l.length - (i + 1) < l.length - i;omega
    | true =>
     rw [h2] at hct hpl
     rw [hbad (by rw [hpl];simp)]
     repeat (first | (with_reducible first | refine Way.imp ?_ | refine blk_o rfl ?_) | ((with_reducible refine WayR.imp (fun K hK=>?_));simp (disch:=first | omega | (simp only [dls];omega)) only [std,reduceIte,reduceCtorEq,iT,nA,nS,nM,iA,iS,iM,iN,fU,fI];subst hK) | (apply call_any_g (hct) rfl;(case hg=>simp (disch:=first | omega | (simp only [dls];omega)) only [std,reduceIte,reduceCtorEq,iT,nA,nS,nM,iA,iS,iM,iN,fU,fI]);(case hcl=>(simp only [evs,St.ev,constAV,evl];(repeat (first | exact closeAVs_nil | (apply closeAVs_cons;(first | (refine close_own3 rfl (by decide)) | (refine close_ownO rfl (by decide) ?_;assumption) | rfl))));done));(case hu=>rfl)))
     exact ⟨_,rfl,rfl⟩
   ·rw [hbad (by rw [hpl,decide_eq_false h1];simp)]
    repeat (first | (with_reducible first | refine Way.imp ?_ | refine blk_o rfl ?_) | ((with_reducible refine WayR.imp (fun K hK=>?_));simp (disch:=first | omega | (simp only [dls];omega)) only [std,reduceIte,reduceCtorEq,iT,nA,nS,nM,iA,iS,iM,iN,fU,fI];subst hK))
    exact ⟨_,rfl,rfl⟩
  ·rw [hbad (by rw [hpl,decide_eq_false h0];simp)]
   repeat (first | (with_reducible first | refine Way.imp ?_ | refine blk_o rfl ?_) | ((with_reducible refine WayR.imp (fun K hK=>?_));simp (disch:=first | omega | (simp only [dls];omega)) only [std,reduceIte,reduceCtorEq,iT,nA,nS,nM,iA,iS,iM,iN,fU,fI];subst hK))
   exact ⟨_,rfl,rfl⟩
 rw [him] at hs
 have hs1:=hs
 rw [hs,Bool.true_and]
 have hnat:=natsOf_is hs1
 obtain ⟨hbs,hblt⟩:=natsOf_bsl c3 hs1
 have hst:=start_O p 3 c2 hp.af hp.bf (by decide) (by decide) 0 ⟨0,25,3,[[.c (encSl 1 fM p.A),.c (vr p.B),.c (vr p.C)]],true,true⟩ ⟨0,3,1,[],true,false⟩ (fun n=>rfl) (fun n=>rfl)
 have hcl:=cloneI_R b hbl
 have hsq:=square_P (sdB p) 3 hS (natsOf (osl b)) b hnat hbs (mnV (minL p)) 0 0 (.val (.slice none 0 0))
 have hw:=wf_sq hS hbs.1
 have hm4:(sdB p).m <= 4:=f4
 have htn:=turn_L (sqL (sdB p) (natsOf (osl b))) (sdB p).m 3 hw (by omega) (by omega)
 have hso:=solve_L (turnL (sdB p).m (sqL (sdB p) (natsOf (osl b)))) (sdB p).b (sdB p).m 3 (wf_turnL hw) hS.bl hS.bf (by omega) (by decide) (by decide) hp.l3
 unfold tB at hst
 unfold cornS
 cases hq:sqOk (augL (turnL (sdB p).m (sqL (sdB p) (natsOf (osl b)))) (sdB p).b) (sdB p).m with
 | false =>
  rw [hq] at hso
  change PureC _ _ _ (.ret (.tup [_,aI 8])) at hso
  refine AWp.fgt ?_ (Fgt.phantom _ 3 1)
  simp only [List.cons_append,List.nil_append]
  repeat (first | (with_reducible first | refine Way.imp ?_ | refine blk_o rfl ?_) | ((with_reducible refine WayR.imp (fun K hK=>?_));simp (disch:=first | omega | (simp only [dls];omega)) only [std,reduceIte,reduceCtorEq,iT,nA,nS,nM,iA,iS,iM,iN,fU];subst hK) | (apply call_open (hst) rfl rfl) | refine zcA (hcl) rfl rfl rfl ?_ | (apply call_ret_34 (hsq) rfl;(case hcl=>(simp only [evs,St.ev,constAV,evl];(repeat (first | exact closeAVs_nil | (apply closeAVs_cons;(first | (refine close_own3 rfl (by decide)) | (refine close_ownO rfl (by decide) ?_;assumption) | rfl | exact rfl))));done));(case hu=>(simp only [evs,St.ev,constAV,evl];(repeat (first | exact used_nil | (apply used_cons;(first | (apply used_own3;rfl) | exact rfl | rfl))));done));(case h1=>((simp only [fzl,freezeFrom_keep,nB,nA,Bool.false_eq_true,if_true,if_false,reduceIte]) <;> rfl));(case h2=>exact rfl);intro b3 b4;simp only [set34_mk]) | refine zcA (htn) rfl rfl rfl ?_ | refine zcA (hso) rfl rfl rfl ?_)
  exact ⟨_,rfl,rfl⟩
 | true =>
  rw [hq] at hso
  change PureC _ _ _ (.ret (.tup [aV (rowV (xL (sdB p) (natsOf (osl b)))),aI 0])) at hso
  have hxl:(xL (sdB p) (natsOf (osl b))).length = (natsOf (osl b)).length:=by
   have h1:=(sol_ok (shp_turnL _ _) (sdB p).b).1 hq
   have:=(sol_spec (shp_turnL _ _) (sdB p).b h1).1
   rw [hbs.1];exact this
  have hsn:(sdB p).n <= 5000:=hS.nb
  have hsp:=(spread_P (sdB p) hsn (natsOf (osl b)) b hnat (xL (sdB p) (natsOf (osl b))) hxl (by rw [hbs.1];omega) (mnV (minL p)) 0 0 (.val (.slice none 0 0)))
  have hNN:(!decide ((sdB p).n = 0)) = !((spreadL (sdB p) (natsOf (osl b)) (xL (sdB p) (natsOf (osl b)))).map rawQ).isEmpty:=by rw [empt_len,List.length_map,spreadL_len]
  rw [hNN] at hsp
  have hsp:=hsp.fresh_rowO
  change PureC _ _ _ (.ret (aV (rowV (cornX p (osl b))))) at hsp
  have hcl8:(cornX p (osl b)).length <= 8:=by unfold cornX;rw [spreadL_len];exact hC8
  have k4:∀ m,m <= 4 -> 4 ^ m * (3 + 1) <= 1024 /\ 1 <= 4 ^ m * (3 + 1):=by decide
  have hfx:FitsV (rowV (cornX p (osl b))) 8 1024:=fits_rowV hcl8 (fun q hq=>(fall_spread (fun q hq=>fits_sol (wf_turnL hw) (by decide) hS.bl hS.bf q hq) (k4 _ hm4).2 q hq).mono (k4 _ hm4).1)
  have fm:∀ {v:VV},FitsV v 8 3 -> FitsV v 8 1024:=fun h=>h.monoL (by decide)
  have hdo:=does_C p (rowV (cornX p (osl b))) 8 1024 ⟨⟨fp.1.1,fun v hv=>fm (fp.1.2 v hv)⟩,fm fp.2.1,fm fp.2.2⟩ hfx (by decide) (by decide) (by decide)
  rw [Bool.true_and]
  cases hd:doesB p (rowV (cornX p (osl b))) with
  | false =>
   rw [hd] at hdo
   refine AWp.fgt ?_ (Fgt.phantom _ 3 1)
   simp only [List.cons_append,List.nil_append]
   repeat (first | (with_reducible first | refine Way.imp ?_ | refine blk_o rfl ?_) | ((with_reducible refine WayR.imp (fun K hK=>?_));simp (disch:=first | omega | (simp only [dls];omega)) only [std,reduceIte,reduceCtorEq,iT,nA,nS,nM,iA,iS,iM,iN,fU];subst hK) | (apply call_open (hst) rfl rfl) | refine zcA (hcl) rfl rfl rfl ?_ | (apply call_ret_34 (hsq) rfl;(case hcl=>(simp only [evs,St.ev,constAV,evl];(repeat (first | exact closeAVs_nil | (apply closeAVs_cons;(first | (refine close_own3 rfl (by decide)) | (refine close_ownO rfl (by decide) ?_;assumption) | rfl | exact rfl))));done));(case hu=>(simp only [evs,St.ev,constAV,evl];(repeat (first | exact used_nil | (apply used_cons;(first | (apply used_own3;rfl) | exact rfl | rfl))));done));(case h1=>((simp only [fzl,freezeFrom_keep,nB,nA,Bool.false_eq_true,if_true,if_false,reduceIte]) <;> rfl));(case h2=>exact rfl);intro b3 b4;simp only [set34_mk]) | refine zcA (htn) rfl rfl rfl ?_ | refine zcA (hso) rfl rfl rfl ?_ | (apply call_ret_34 (hsp) rfl;(case hcl=>(simp only [evs,St.ev,constAV,evl];(repeat (first | exact closeAVs_nil | (apply closeAVs_cons;(first | (refine close_own3 rfl (by decide)) | (refine close_ownO rfl (by decide) ?_;assumption) | rfl | exact rfl))));done));(case hu=>(simp only [evs,St.ev,constAV,evl];(repeat (first | exact used_nil | (apply used_cons;(first | (apply used_own3;rfl) | exact rfl | rfl))));done));(case h1=>((simp only [fzl,freezeFrom_keep,nB,nA,Bool.false_eq_true,if_true,if_false,reduceIte]) <;> rfl));(case h2=>exact rfl);intro b3 b4;simp only [set34_mk]) | refine zcA (hdo) rfl rfl rfl ?_)
   exact ⟨_,rfl,rfl⟩
  | true =>
   rw [hd] at hdo
   refine AWp.fgt ?_ (Fgt.phantom _ 3 1)
   simp only [List.cons_append,List.nil_append]
   repeat (first | (with_reducible first | refine Way.imp ?_ | refine blk_o rfl ?_) | ((with_reducible refine WayR.imp (fun K hK=>?_));simp (disch:=first | omega | (simp only [dls];omega)) only [std,reduceIte,reduceCtorEq,iT,nA,nS,nM,iA,iS,iM,iN,fU];subst hK) | (apply call_open (hst) rfl rfl) | refine zcA (hcl) rfl rfl rfl ?_ | (apply call_ret_34 (hsq) rfl;(case hcl=>(simp only [evs,St.ev,constAV,evl];(repeat (first | exact closeAVs_nil | (apply closeAVs_cons;(first | (refine close_own3 rfl (by decide)) | (refine close_ownO rfl (by decide) ?_;assumption) | rfl | exact rfl))));done));(case hu=>(simp only [evs,St.ev,constAV,evl];(repeat (first | exact used_nil | (apply used_cons;(first | (apply used_own3;rfl) | exact rfl | rfl))));done));(case h1=>((simp only [fzl,freezeFrom_keep,nB,nA,Bool.false_eq_true,if_true,if_false,reduceIte]) <;> rfl));(case h2=>exact rfl);intro b3 b4;simp only [set34_mk]) | refine zcA (htn) rfl rfl rfl ?_ | refine zcA (hso) rfl rfl rfl ?_ | (apply call_ret_34 (hsp) rfl;(case hcl=>(simp only [evs,St.ev,constAV,evl];(repeat (first | exact closeAVs_nil | (apply closeAVs_cons;(first | (refine close_own3 rfl (by decide)) | (refine close_ownO rfl (by decide) ?_;assumption) | rfl | exact rfl))));done));(case hu=>(simp only [evs,St.ev,constAV,evl];(repeat (first | exact used_nil | (apply used_cons;(first | (apply used_own3;rfl) | exact rfl | rfl))));done));(case h1=>((simp only [fzl,freezeFrom_keep,nB,nA,Bool.false_eq_true,if_true,if_false,reduceIte]) <;> rfl));(case h2=>exact rfl);intro b3 b4;simp only [set34_mk]) | refine zcA (hdo) rfl rfl rfl ?_)
   exact ⟨_,rfl,rfl⟩
theorem does_feas {p:PB} (hr:rightB p = true) {X:List Rat} (hl:X.length = (osl p.C).length):doesB p (rowV X) = true ↔ Feas (pfOf p) X:=by
 have hdot:∀ i,i < (osl p.A).length -> dotV (mAt p.A i) (rowV X) = rowX (pfOf p) X i:=fun i hi=>by
  obtain ⟨_,_,_,l4⟩:=right_len hr
  rw [dot_sum]
  unfold vmin
  rw [len_rowV,hl,mAt_in hi,l4 i hi,Nat.min_self,<- mAt_in hi]
  exact sumR_congr (fun k _=>by rw [qAt_rowV];rfl)
 unfold doesB Feas
 rw [hr,len_rowV,hl,decide_eq_true rfl]
 simp only [Bool.true_and,Bool.and_eq_true,Bool.not_eq_true']
 constructor
 ·rintro ⟨h1,h2⟩
  refine ⟨rfl,fun k hk=>?_,fun i hi=>?_⟩
  ·have:=anyI_false h1 (show k < (osl p.C).length from hk)
   have e:pAt belowB (rowV X) k = decide (qAt (rowV X) k < 0):=rfl
   rw [e,decide_eq_false_iff_not,Rat.not_lt,qAt_rowV] at this
   exact this
  ·unfold doesTo at h2
   have:=List.all_eq_true.1 h2 i (List.mem_range.2 hi)
   rw [decide_eq_true_eq,hdot i hi] at this
   exact this
 ·rintro ⟨_,h1,h2⟩
  refine ⟨anyI_of (fun k hk=>?_),?_⟩
  ·have e:pAt belowB (rowV X) k = decide (qAt (rowV X) k < 0):=rfl
   rw [e,decide_eq_false_iff_not,Rat.not_lt,qAt_rowV]
   exact h1 k hk
  ·unfold doesTo
   rw [List.all_eq_true]
   intro i hi
   rw [decide_eq_true_eq,hdot i (List.mem_range.1 hi)]
   exact h2 i (List.mem_range.1 hi)
def pcTo (p:PB) (l:List Int) (i:Nat):QM:=(List.range i).map fun j=>colTo p (l.getD j 0).toNat (osl p.A).length
theorem pcTo_succ (p:PB) (l:List Int) (i:Nat):pcTo p l (i + 1) = pcTo p l i ++ [colTo p (l.getD i 0).toNat (osl p.A).length]:=by unfold pcTo;rw [List.range_succ,List.map_append];rfl
theorem pcTo_len (p:PB) (l:List Int) (i:Nat):(pcTo p l i).length = i:=by unfold pcTo;rw [List.length_map,List.length_range]
theorem pc_wf {p:PB} {l:List Int} (hp:PFits p 3):Wf (pcTo p l (osl p.A).length) (osl p.A).length (osl p.A).length 3:=by
 refine ⟨pcTo_len _ _ _,fun r hr=>?_⟩
 unfold pcTo at hr
 obtain ⟨j,_,rfl⟩:=List.mem_map.1 hr
 refine ⟨colTo_len _ _ _,fun q hq=>?_⟩
 unfold colTo at hq
 obtain ⟨i,_,rfl⟩:=List.mem_map.1 hq
 exact ((hp.af.at i).at _).val (by decide)
theorem pc_at {p:PB} {l:List Int} {c j:Nat} (hc:c < (osl p.A).length) (hj:j < (osl p.A).length):eQ (pcTo p l (osl p.A).length) c j = qAt (mAt p.A j) (l.getD c 0).toNat:=by
 unfold eQ pcTo
 rw [getD_mapR _ _ c [] hc]
 exact getD_mapR _ _ j 0 hj
theorem sq_at {p:PB} {l:List Int} (hl:l.length = (osl p.A).length) (hlt:∀ j,j < (natsOf l).length -> (natsOf l).getD j 0 < (osl p.C).length) {c j:Nat} (hc:c < (osl p.A).length) (hj:j < (osl p.A).length) :
  (colL (sdB p) (bsF (natsOf l) c)).getD j 0 = sgnP (pfOf p) j (qAt (mAt p.A j) (l.getD c 0).toNat):=by
 have e:bsF (natsOf l) c = (l.getD c 0).toNat:=getD_map0 l Int.toNat c 0 0 (by omega)
 have hlen:(natsOf l).length = l.length:=by unfold natsOf;rw [List.length_map]
 have h1:=hlt c (by omega)
 refine (sd_col (pfOf p) h1 hj).trans ?_
 show sgnP (pfOf p) j (qAt (mAt p.A j) (bsF (natsOf l) c)) = _
 rw [e]
theorem ind_iff {p:PB} {l:List Int} (hl:l.length = (osl p.A).length) (hlt:∀ j,j < (natsOf l).length -> (natsOf l).getD j 0 < (osl p.C).length) :
  Indep (osl p.A).length (fun c j=>(colL (sdB p) (bsF (natsOf l) c)).getD j 0) ↔ Indep (osl p.A).length (fun c j=>eQ (pcTo p l (osl p.A).length) c j):=by
 have key:∀ (u:Nat -> Rat) j,j < (osl p.A).length -> sumR (osl p.A).length (fun c=>(colL (sdB p) (bsF (natsOf l) c)).getD j 0 * u c) = sgnP (pfOf p) j 1 * sumR (osl p.A).length (fun c=>eQ (pcTo p l (osl p.A).length) c j * u c):=fun u j hj=>by
  rw [<- sumR_mull]
  exact sumR_congr (fun c hc=>by rw [sq_at hl hlt hc hj,pc_at hc hj,Go.Off.sgn_mul,Rat.mul_assoc])
 constructor
 ·intro h u hu
  refine h u (fun j hj=>?_)
  have:=key u j hj
  rw [hu j hj,Rat.mul_zero] at this
  exact this
 ·intro h u hu
  refine h u (fun j hj=>?_)
  have h1:=(key u j hj).symm.trans (hu j hj)
  have h2:sgnP (pfOf p) j 1 * (sgnP (pfOf p) j 1 * sumR (osl p.A).length (fun c=>eQ (pcTo p l (osl p.A).length) c j * u c)) = 0:=by rw [h1,Rat.mul_zero]
  rw [<- Rat.mul_assoc,sgn_sq,Rat.one_mul] at h2
  exact h2
theorem rank_iff {p:PB} {l:List Int} (hp:PFits p 3) (h4:(osl p.A).length <= 4):rankQ (mL (pcTo p l (osl p.A).length)) = (osl p.A).length ↔ Indep (osl p.A).length (fun c j=>eQ (pcTo p l (osl p.A).length) c j):=by
 have hw:=pc_wf (l:=l) hp
 have e:rankQ (mL (pcTo p l (osl p.A).length)) = (redTo (pcTo p l (osl p.A).length) (osl p.A).length).2.length:=by
  unfold rankQ
  rw [if_pos (ok_mL hw (by omega) (by omega)),qM_mL]
  by_cases h0:(osl p.A).length = 0
  ·rw [cols_zero (by rw [len_mL,pcTo_len];exact h0),h0]
  ·rw [cols_mL hw.shp h0]
 rw [e]
 refine (red_indep hw.shp (Nat.le_refl _)).trans ?_
 have h1:=indep_turn hw.shp (shp_turnL _ _) (fun i k hi hk=>eQ_turnL hk hi)
 refine h1.symm.trans ?_
 exact ⟨fun h=>h.congr (fun j i hj hi=>eQ_turnL hi hj),fun h=>h.congr (fun j i hj hi=>(eQ_turnL hi hj).symm)⟩
theorem cornS_no {p:PB} {l:List Int} (hl:l.length = (osl p.A).length) (hpl:plTo (osl p.C).length l l.length = true) (hn:¬ Indep (osl p.A).length (fun c j=>eQ (pcTo p l (osl p.A).length) c j)):cornS p l = false:=by
 obtain ⟨hbs,hlt⟩:=natsOf_bsl hl hpl
 unfold cornS
 have:sqOk (augL (turnL (sdB p).m (sqL (sdB p) (natsOf l))) (sdB p).b) (sdB p).m = false:=by
  rw [Bool.eq_false_iff]
  intro h
  refine hn ((ind_iff hl hlt).1 ?_)
  exact ((sol_ok (shp_turnL _ _) (sdB p).b).1 h).congr (fun j i hj hi=>by rw [eQ_turnL hi hj,eQ_sq hbs.1 hj])
 rw [this];rfl
theorem corn_bok {p:PB} {l:List Int} (hl:l.length = (osl p.A).length) (hpl:plTo (osl p.C).length l l.length = true) (hi:Indep (osl p.A).length (fun c j=>eQ (pcTo p l (osl p.A).length) c j)):BOk (sdB p) (natsOf l):=by
 obtain ⟨hbs,hlt⟩:=natsOf_bsl hl hpl
 exact ⟨hbs.1,fun j hj=>hbs.2 j (by rw [hbs.1];exact hj),(ind_iff hl hlt).2 hi⟩
theorem corn_ok {p:PB} {l:List Int} (hl:l.length = (osl p.A).length) (hpl:plTo (osl p.C).length l l.length = true) (hi:Indep (osl p.A).length (fun c j=>eQ (pcTo p l (osl p.A).length) c j)):sqOk (augL (turnL (sdB p).m (sqL (sdB p) (natsOf l))) (sdB p).b) (sdB p).m = true:=by
 have hB:=corn_bok hl hpl hi
 exact (sol_ok (shp_turnL _ _) (sdB p).b).2 (hB.ind.congr (fun j i hj hi=>by rw [eQ_turnL hi hj,eQ_sq hB.len hj]))
theorem corn_cok {p:PB} {l:List Int} (hr:rightB p = true) (hl:l.length = (osl p.A).length) (hpl:plTo (osl p.C).length l l.length = true) (hi:Indep (osl p.A).length (fun c j=>eQ (pcTo p l (osl p.A).length) c j)) (hpos:∀ j,j < (osl p.A).length -> 0 <= lF (xL (sdB p) (natsOf l)) j):cornS p l = true:=by
 have hB:=corn_bok hl hpl hi
 obtain ⟨hbs,hlt⟩:=natsOf_bsl hl hpl
 have hz:Zer (sdB p) (natsOf l):=fun j hj hn=>by
  have h1:=hlt j (by rw [hbs.1];exact hj)
  have h2:(osl p.C).length <= (natsOf l).getD j 0:=hn
  omega
 have hf:=feas_x (P:=pfOf p) ⟨hB,hpos⟩ hz
 unfold cornS
 rw [corn_ok hl hpl hi,Bool.true_and]
 exact (does_feas hr hf.1).2 hf
theorem corn_sol {p:PB} {l:List Int} (hp:PFits p 3) (hl:l.length = (osl p.A).length) (hpl:plTo (osl p.C).length l l.length = true) (hi:Indep (osl p.A).length (fun c j=>eQ (pcTo p l (osl p.A).length) c j)) :
  sqOk (augL (turnL (osl p.A).length (pcTo p l (osl p.A).length)) (valsV p.B)) (osl p.A).length = true /\ solL (turnL (osl p.A).length (pcTo p l (osl p.A).length)) (valsV p.B) = xL (sdB p) (natsOf l):=by
 have hB:=corn_bok hl hpl hi
 obtain ⟨hbs,hlt⟩:=natsOf_bsl hl hpl
 have h1:Indep (osl p.A).length (fun c j=>eQ (turnL (osl p.A).length (pcTo p l (osl p.A).length)) j c):=hi.congr (fun j i hj hi=>(eQ_turnL hi hj).symm)
 have hs:=sol_spec (shp_turnL (osl p.A).length (pcTo p l (osl p.A).length)) (valsV p.B) h1
 refine ⟨(sol_ok (shp_turnL _ _) _).2 h1,?_⟩
 have hx:=x_len (sd_wf (pfOf p)) hB
 have key:∀ j,j < (osl p.A).length -> lF (solL (turnL (osl p.A).length (pcTo p l (osl p.A).length)) (valsV p.B)) j = lF (xL (sdB p) (natsOf l)) j:=by
  refine hB.ind.uniq (b:=fun j=>sgnP (pfOf p) j (qAt p.B j)) (fun j hj=>?_) (fun j hj=>?_)
  ·have:=hs.2 j hj
   have hj':j < (osl p.A).length:=hj
   rw [vals_at] at this
   rw [Go.Off.sgn_mul,<- this,<- sumR_mull]
   refine sumR_congr (fun c hc=>?_)
   have hc':c < (osl p.A).length:=hc
   rw [sq_at hl hlt hc' hj',eQ_turnL hj' hc',pc_at hc' hj',Go.Off.sgn_mul,Rat.mul_assoc]
   rfl
  ·exact (x_sol (sd_wf (pfOf p)) hB j hj).trans (sd_b (pfOf p) hj)
 refine List.ext_getElem (by rw [hs.1];exact hx.symm) (fun i g1 g2=>?_)
 have:=key i (by rw [hs.1] at g1;exact g1)
 unfold lF at this
 rw [List.getD_eq_getElem?_getD,List.getElem?_eq_getElem g1,List.getD_eq_getElem?_getD,List.getElem?_eq_getElem g2] at this
 exact this
def insTo (n:Nat) (l:List Int) (i:Nat):List Bool:=(List.range n).map fun k:Nat=>(l.take i).contains (k:Int)
theorem insTo_at {n:Nat} {l:List Int} {i k:Nat} (h:k < n):(insTo n l i).getD k false = (l.take i).contains (k:Int):=getD_mapR n _ k false h
theorem insTo_len (n:Nat) (l:List Int) (i:Nat):(insTo n l i).length = n:=by unfold insTo;rw [List.length_map,List.length_range]
theorem insTo_succ {n:Nat} {l:List Int} {i:Nat} (hi:i < l.length) (h0:0 <= l[i]) (h1:l[i] < n):insTo n l (i + 1) = (insTo n l i).set l[i].toNat true:=by
 refine List.ext_getElem (by rw [List.length_set,insTo_len,insTo_len]) (fun k g1 g2=>?_)
 have hk:k < n:=by rw [insTo_len] at g1;exact g1
 have e1:=insTo_at (l:=l) (i:=i + 1) hk
 have e2:=getD_set0 (insTo n l i) l[i].toNat k true false (by rw [insTo_len];omega)
 rw [List.getD_eq_getElem?_getD,List.getElem?_eq_getElem g1] at e1
 rw [List.getD_eq_getElem?_getD,List.getElem?_eq_getElem g2,insTo_at hk] at e2
 have g3:(insTo n l (i + 1))[k] = (l.take (i + 1)).contains (k:Int):=e1
 have g4:((insTo n l i).set l[i].toNat true)[k] = if k = l[i].toNat then true else (l.take i).contains (k:Int):=e2
 rw [g3,g4,List.take_succ_eq_append_getElem hi]
 by_cases e:k = l[i].toNat
 ·rw [if_pos e]
  have:(k:Int) = l[i]:=by omega
  rw [this]
  exact List.contains_iff_mem.2 (List.mem_append.2 (.inr (List.mem_singleton.2 rfl)))
 ·rw [if_neg e]
  have:¬ (k:Int) = l[i]:=by omega
  rw [Bool.eq_iff_iff,List.contains_iff_mem,List.contains_iff_mem,List.mem_append,List.mem_singleton]
  exact ⟨fun h=>h.resolve_right this,.inl⟩
theorem repBo (n:Nat):List.replicate n [Cell.c (.val (.bool false))] = encB fBo (List.replicate n false):=by rw [encB_replicate];rfl
theorem insTo_zero (n:Nat) (l:List Int):insTo n l 0 = List.replicate n false:=by
 refine List.ext_getElem (by rw [insTo_len,List.length_replicate]) (fun k h1 h2=>?_)
 have hk:k < n:=by rw [insTo_len] at h1;exact h1
 have e1:=insTo_at (l:=l) (i:=0) hk
 rw [List.getD_eq_getElem?_getD,List.getElem?_eq_getElem h1] at e1
 rw [List.getElem_replicate]
 exact e1
def belTo (l:List Rat) (i:Nat):Bool:=anyI (fun j=>decide (l.getD j 0 < 0)) i
abbrev c8_k1:CC:=(.seq (.reg [⟨some 147,none,.load 3 true (.tmp 2)⟩,⟨some 148,none,.mv (.tmp 5)⟩,⟨some 149,none,.callf (.func 26) [(.tmp 147),(.tmp 148)]⟩,⟨some 150,none,.mv (.tmp 149)⟩,⟨some 151,(some (150,true)),.callf (.func 12) []⟩,⟨some 152,none,.pick (.tmp 150) (.tmp 151) (.const (.bool false))⟩,⟨some 4,none,.mv (.tmp 152)⟩]) .ret)
abbrev c8_b1:CC:=(.seq (.reg [⟨some 132,none,.bin .lss (.tmp 131) (.tmp 130)⟩]) (.seq (.cond (.tmp 132) .skip (.exit 4)) (.seq (.block 5 (.seq (.reg [⟨some 133,none,.mv (.tmp 131)⟩,⟨some 134,none,.iaddr 3 none (.tmp 129) (.tmp 131)⟩,⟨some 135,none,.load 3 true (.tmp 134)⟩,⟨some 18,none,.new 41 [(.bool false),(.slice none 0 0),(.slice none 0 0)]⟩,⟨some 17,none,.mv (.tmp 133)⟩,⟨none,none,.store 3 (.tmp 18) (.tmp 135)⟩]) (.seq (.reg [⟨some 136,none,.mv (.tmp 9)⟩,⟨some 137,none,.mv (.tmp 17)⟩,⟨some 138,none,.iaddr 1 none (.tmp 136) (.tmp 137)⟩,⟨some 139,none,.load 1 false (.tmp 138)⟩,⟨some 140,none,.un .not (.tmp 139)⟩,⟨some 141,none,.mv (.tmp 140)⟩,⟨some 142,(some (141,true)),.load 3 true (.tmp 18)⟩,⟨some 143,(some (141,true)),.callf (.func 23) [(.tmp 142)]⟩,⟨some 144,(some (141,true)),.bin .neq (.tmp 143) (.const (.int .i64 (0)))⟩,⟨some 145,none,.pick (.tmp 141) (.tmp 144) (.const (.bool false))⟩]) (.cond (.tmp 145) (.seq (.reg [⟨some 4,none,.mv (.const (.bool false))⟩]) .ret) .skip)))) (.reg [⟨some 146,none,.bin .add (.tmp 131) (.const (.int .i64 (1)))⟩,⟨some 131,none,.mv (.tmp 146)⟩]))))
abbrev c8_k2:CC:=(.seq (.seq (.reg [⟨some 129,none,.mv (.tmp 5)⟩,⟨some 130,none,.len false (.tmp 129)⟩,⟨some 131,none,.mv (.const (.int .i64 (0)))⟩]) (.block 4 (.loop c8_b1))) c8_k1)
abbrev c8_k3:CC:=(.seq (.reg [⟨some 121,none,.mv (.tmp 13)⟩,⟨some 122,none,.bin .neq (.tmp 121) (.const (.int .i64 (0)))⟩,⟨some 123,none,.mv (.tmp 122)⟩,⟨some 124,(some (123,false)),.mv (.tmp 14)⟩,⟨some 125,none,.pick (.tmp 123) (.const (.bool true)) (.tmp 124)⟩,⟨some 126,none,.mv (.tmp 125)⟩,⟨some 127,(some (126,true)),.callf (.func 12) []⟩,⟨some 128,none,.pick (.tmp 126) (.tmp 127) (.const (.bool false))⟩,⟨some 4,none,.mv (.tmp 128)⟩]) .ret)
abbrev c8_b2:CC:=(.seq (.reg [⟨some 111,none,.bin .lss (.tmp 110) (.tmp 109)⟩]) (.seq (.cond (.tmp 111) .skip (.exit 2)) (.seq (.block 3 (.seq (.reg [⟨some 112,none,.iaddr 3 none (.tmp 108) (.tmp 110)⟩,⟨some 113,none,.load 3 true (.tmp 112)⟩,⟨some 16,none,.new 41 [(.bool false),(.slice none 0 0),(.slice none 0 0)]⟩,⟨none,none,.store 3 (.tmp 16) (.tmp 113)⟩]) (.reg [⟨some 114,none,.mv (.tmp 14)⟩,⟨some 115,none,.mv (.tmp 114)⟩,⟨some 116,(some (115,false)),.load 3 true (.tmp 16)⟩,⟨some 117,(some (115,false)),.callf (.func 23) [(.tmp 116)]⟩,⟨some 118,(some (115,false)),.bin .lss (.tmp 117) (.const (.int .i64 (0)))⟩,⟨some 119,none,.pick (.tmp 115) (.const (.bool true)) (.tmp 118)⟩,⟨some 14,none,.mv (.tmp 119)⟩]))) (.reg [⟨some 120,none,.bin .add (.tmp 110) (.const (.int .i64 (1)))⟩,⟨some 110,none,.mv (.tmp 120)⟩]))))
abbrev c8_k4:CC:=(.seq (.seq (.reg [⟨some 80,none,.mv (.tmp 7)⟩,⟨some 81,none,.un .not (.tmp 80)⟩,⟨some 82,none,.mv (.tmp 81)⟩,⟨some 83,(some (82,false)),.mv (.tmp 8)⟩,⟨some 84,(some (82,false)),.callf (.func 29) [(.tmp 83)]⟩,⟨some 85,(some (82,false)),.mv (.tmp 8)⟩,⟨some 86,(some (82,false)),.len false (.tmp 85)⟩,⟨some 87,(some (82,false)),.bin .neq (.tmp 84) (.tmp 86)⟩,⟨some 88,none,.pick (.tmp 82) (.const (.bool true)) (.tmp 87)⟩]) (.cond (.tmp 88) (.seq (.reg [⟨some 89,none,.mv (.tmp 6)⟩,⟨some 90,none,.un .not (.tmp 89)⟩,⟨some 91,none,.mv (.tmp 90)⟩,⟨some 92,(some (91,true)),.callf (.func 12) []⟩,⟨some 93,none,.pick (.tmp 91) (.tmp 92) (.const (.bool false))⟩,⟨some 4,none,.mv (.tmp 93)⟩]) .ret) .skip)) (.seq (.seq (.reg [⟨some 94,none,.mv (.tmp 6)⟩,⟨some 95,none,.un .not (.tmp 94)⟩]) (.cond (.tmp 95) (.seq (.reg [⟨some 97,none,.mv (.tmp 8)⟩,⟨some 98,none,.callf (.func 31) [(.tmp 97)]⟩,⟨some 99,none,.faddr 1 (.tmp 2)⟩,⟨some 100,none,.load 1 false (.tmp 99)⟩,⟨some 101,none,.callf (.func 30) [(.tmp 98),(.tmp 100)]⟩,⟨some 96,none,.mv (.tmp 101)⟩,⟨some 102,none,.ext (.tmp 96) 0⟩,⟨some 103,none,.ext (.tmp 96) 1⟩,⟨some 12,none,.mv (.tmp 102)⟩,⟨some 13,none,.mv (.tmp 103)⟩]) (.seq (.reg [⟨some 104,none,.faddr 0 (.tmp 2)⟩,⟨some 105,none,.load 1 false (.tmp 104)⟩,⟨some 106,none,.len false (.tmp 105)⟩,⟨some 107,none,.bin .eql (.tmp 106) (.const (.int .i64 (0)))⟩,⟨some 14,none,.mv (.tmp 107)⟩]) (.seq (.seq (.reg [⟨some 108,none,.mv (.tmp 12)⟩,⟨some 109,none,.len false (.tmp 108)⟩,⟨some 110,none,.mv (.const (.int .i64 (0)))⟩]) (.block 2 (.loop c8_b2))) c8_k3))) .skip)) c8_k2))
abbrev c8_b3:CC:=(.seq (.reg [⟨some 52,none,.bin .lss (.tmp 51) (.tmp 50)⟩]) (.seq (.cond (.tmp 52) .skip (.exit 0)) (.seq (.block 1 (.seq (.reg [⟨some 53,none,.iaddr 1 none (.tmp 49) (.tmp 51)⟩,⟨some 54,none,.load 1 false (.tmp 53)⟩,⟨some 11,none,.mv (.tmp 54)⟩]) (.seq (.seq (.reg [⟨some 55,none,.mv (.tmp 11)⟩,⟨some 56,none,.bin .lss (.tmp 55) (.const (.int .i64 (0)))⟩,⟨some 57,none,.mv (.tmp 56)⟩,⟨some 58,(some (57,false)),.mv (.tmp 11)⟩,⟨some 59,(some (57,false)),.faddr 2 (.tmp 2)⟩,⟨some 60,(some (57,false)),.load 1 false (.tmp 59)⟩,⟨some 61,(some (57,false)),.len false (.tmp 60)⟩,⟨some 62,(some (57,false)),.bin .geq (.tmp 58) (.tmp 61)⟩,⟨some 63,none,.pick (.tmp 57) (.const (.bool true)) (.tmp 62)⟩,⟨some 64,none,.mv (.tmp 63)⟩,⟨some 65,(some (64,false)),.mv (.tmp 9)⟩,⟨some 66,(some (64,false)),.mv (.tmp 11)⟩,⟨some 67,(some (64,false)),.iaddr 1 none (.tmp 65) (.tmp 66)⟩,⟨some 68,(some (64,false)),.load 1 false (.tmp 67)⟩,⟨some 69,none,.pick (.tmp 64) (.const (.bool true)) (.tmp 68)⟩]) (.cond (.tmp 69) (.seq (.reg [⟨some 7,none,.mv (.const (.bool false))⟩]) (.exit 0)) .skip)) (.seq (.reg [⟨some 70,none,.mv (.tmp 9)⟩,⟨some 71,none,.mv (.tmp 11)⟩,⟨some 72,none,.iaddr 1 none (.tmp 70) (.tmp 71)⟩,⟨none,none,.store 1 (.tmp 72) (.const (.bool true))⟩]) (.reg [⟨some 73,none,.mv (.tmp 8)⟩,⟨some 74,none,.load 3 true (.tmp 2)⟩,⟨some 75,none,.mv (.tmp 11)⟩,⟨some 76,none,.callf (.func 28) [(.tmp 74),(.tmp 75)]⟩,⟨some 77,none,.mkrow 23 1 [(.tmp 76)]⟩,⟨some 78,none,.append 23 1 24 (.tmp 73) (.tmp 77)⟩,⟨some 8,none,.mv (.tmp 78)⟩]))))) (.reg [⟨some 79,none,.bin .add (.tmp 51) (.const (.int .i64 (1)))⟩,⟨some 51,none,.mv (.tmp 79)⟩]))))
abbrev c8:CC:=(.seq (.reg [⟨some 2,none,.box 25 (.tmp 0)⟩,⟨some 4,none,.mv (.const (.bool false))⟩]) (.seq (.seq (.reg [⟨some 19,none,.load 3 true (.tmp 2)⟩,⟨some 20,none,.callf (.func 10) [(.tmp 19)]⟩,⟨some 21,none,.un .not (.tmp 20)⟩,⟨some 22,none,.mv (.tmp 21)⟩,⟨some 23,(some (22,false)),.load 3 true (.tmp 2)⟩,⟨some 24,(some (22,false)),.callf (.func 11) [(.tmp 23)]⟩,⟨some 25,(some (22,false)),.un .not (.tmp 24)⟩,⟨some 26,none,.pick (.tmp 22) (.const (.bool true)) (.tmp 25)⟩,⟨some 27,none,.mv (.tmp 26)⟩,⟨some 28,(some (27,false)),.mv (.tmp 1)⟩,⟨some 29,(some (27,false)),.len false (.tmp 28)⟩,⟨some 30,(some (27,false)),.bin .gtr (.tmp 29) (.const (.int .i64 (8)))⟩,⟨some 31,none,.pick (.tmp 27) (.const (.bool true)) (.tmp 30)⟩]) (.cond (.tmp 31) (.seq (.reg [⟨some 32,none,.callf (.func 12) []⟩,⟨some 4,none,.mv (.tmp 32)⟩]) .ret) .skip)) (.seq (.reg [⟨some 34,none,.load 3 true (.tmp 2)⟩,⟨some 35,none,.mv (.tmp 1)⟩,⟨some 36,none,.callf (.func 27) [(.tmp 34),(.tmp 35)]⟩,⟨some 33,none,.mv (.tmp 36)⟩,⟨some 37,none,.ext (.tmp 33) 0⟩,⟨some 38,none,.ext (.tmp 33) 1⟩,⟨some 5,none,.mv (.tmp 37)⟩,⟨some 6,none,.mv (.tmp 38)⟩]) (.seq (.reg [⟨some 39,none,.mv (.tmp 1)⟩,⟨some 40,none,.len false (.tmp 39)⟩,⟨some 41,none,.faddr 0 (.tmp 2)⟩,⟨some 42,none,.load 1 false (.tmp 41)⟩,⟨some 43,none,.len false (.tmp 42)⟩,⟨some 44,none,.bin .eql (.tmp 40) (.tmp 43)⟩,⟨some 7,none,.mv (.tmp 44)⟩]) (.seq (.reg [⟨some 8,none,.mv (.const (.slice none 0 0))⟩]) (.seq (.reg [⟨some 45,none,.faddr 2 (.tmp 2)⟩,⟨some 46,none,.load 1 false (.tmp 45)⟩,⟨some 47,none,.len false (.tmp 46)⟩,⟨some 48,none,.make 4 1 1 [(.bool false)] (.tmp 47) (.tmp 47)⟩,⟨some 9,none,.mv (.tmp 48)⟩]) (.seq (.seq (.reg [⟨some 49,none,.mv (.tmp 1)⟩,⟨some 50,none,.len false (.tmp 49)⟩,⟨some 51,none,.mv (.const (.int .i64 (0)))⟩]) (.block 0 (.loop c8_b3))) c8_k4)))))))
theorem cc8:ccode Try.prog [] (Try.f8.body.getD .skip) = some c8:=by kernel_rfl
theorem body8:Try.f8.body = some (Try.f8.body.getD .skip):=rfl
theorem simplexCorner_C (p:PB) (b:Option (List Int)) (hbl:(osl b).length <= 9223372036854775807) (hbb:∀ z ∈ osl b,-9223372036854775808 <= z /\ z <= 9223372036854775807):PureC Try.prog 8 [aP p,aIs b] (.ret (aB true)):=by
 have hw:=awake12_C
 have hf:=fewP_C p
 cases c1:fewP p with
 | false =>
  rw [c1] at hf
  refine pureC_of (rs:=[(RV.tmp 4)]) Try.func8 (fun a w=>Try.call8 a w) body8 cc8 (by kernel_rfl) ?_
  rw [Try.ntmps8]
  simp only [frs,nA,nS]
  repeat (first | (with_reducible first | refine Way.imp ?_ | refine blk_o rfl ?_) | ((with_reducible refine WayR.imp (fun K hK=>?_));simp (disch:=first | omega | (simp only [dls];omega)) only [std,reduceIte,reduceCtorEq,iT,nA,nS,nM,iA,iS,iM,iN,fU];subst hK) | refine zcA (hf) rfl rfl rfl ?_ | refine zcA (hw) rfl rfl rfl ?_)
  exact ⟨_,rfl,rfl⟩
 | true =>
 rw [c1] at hf
 have hr:=sright_C p
 cases c2:rightB p with
 | false =>
  rw [c2] at hr
  refine pureC_of (rs:=[(RV.tmp 4)]) Try.func8 (fun a w=>Try.call8 a w) body8 cc8 (by kernel_rfl) ?_
  rw [Try.ntmps8]
  simp only [frs,nA,nS]
  repeat (first | (with_reducible first | refine Way.imp ?_ | refine blk_o rfl ?_) | ((with_reducible refine WayR.imp (fun K hK=>?_));simp (disch:=first | omega | (simp only [dls];omega)) only [std,reduceIte,reduceCtorEq,iT,nA,nS,nM,iA,iS,iM,iN,fU];subst hK) | refine zcA (hf) rfl rfl rfl ?_ | (apply call_any_g (hr) rfl;(case hg=>simp (disch:=first | omega | (simp only [dls];omega)) only [std,reduceIte,reduceCtorEq,iT,nA,nS,nM,iA,iS,iM,iN,fU]);(case hcl=>(simp only [evs,St.ev,constAV,evl];(repeat (first | exact closeAVs_nil | (apply closeAVs_cons;(first | (refine close_own3 rfl (by decide)) | (refine close_ownO rfl (by decide) ?_;assumption) | rfl))));done));(case hu=>rfl)) | refine zcA (hw) rfl rfl rfl ?_)
  exact ⟨_,rfl,rfl⟩
 | true =>
 rw [c2] at hr
 by_cases c8:(osl b).length <= 8
 case neg =>
  refine pureC_of (rs:=[(RV.tmp 4)]) Try.func8 (fun a w=>Try.call8 a w) body8 cc8 (by kernel_rfl) ?_
  rw [Try.ntmps8]
  simp only [frs,nA,nS]
  repeat (first | (with_reducible first | refine Way.imp ?_ | refine blk_o rfl ?_) | ((with_reducible refine WayR.imp (fun K hK=>?_));simp (disch:=first | omega | (simp only [dls];omega)) only [std,reduceIte,reduceCtorEq,iT,nA,nS,nM,iA,iS,iM,iN,fU];subst hK) | refine zcA (hf) rfl rfl rfl ?_ | (apply call_any_g (hr) rfl;(case hg=>simp (disch:=first | omega | (simp only [dls];omega)) only [std,reduceIte,reduceCtorEq,iT,nA,nS,nM,iA,iS,iM,iN,fU]);(case hcl=>(simp only [evs,St.ev,constAV,evl];(repeat (first | exact closeAVs_nil | (apply closeAVs_cons;(first | (refine close_own3 rfl (by decide)) | (refine close_ownO rfl (by decide) ?_;assumption) | rfl))));done));(case hu=>rfl)) | refine zcA (hw) rfl rfl rfl ?_)
  exact ⟨_,rfl,rfl⟩
 obtain ⟨fp,f4⟩:=fewP_fits c1
 have hp:=pfits_few c1 c2
 have hC8:(osl p.C).length <= 8:=fp.2.2.1
 have hcor:=corner_C p b (by omega) c1
 obtain ⟨xv,is,hxi,hno⟩:∃ (xv:VV) (is:Bool),cornV p (osl b) = .tup [aV xv,aB is] /\ (is = (cornP p (osl b) && cornS p (osl b)) /\ (is = true -> xv = rowV (cornX p (osl b)))):=by
  unfold cornV
  cases h:(cornP p (osl b) && cornS p (osl b)) with
  | true=>exact ⟨_,true,if_pos rfl,rfl,fun _=>rfl⟩
  | false=>exact ⟨none,false,if_neg (by simp),rfl,fun h=>by cases h⟩
 rw [hxi] at hcor
 obtain ⟨his,hxv⟩:=hno
 have hcp:cornP p (osl b) = (decide ((osl b).length = (osl p.A).length) && plTo (osl p.C).length (osl b) (osl b).length):=by unfold cornP;rw [c2,Bool.true_and]
 rw [hcp] at his
 refine pureC_of (rs:=[(RV.tmp 4)]) Try.func8 (fun a w=>Try.call8 a w) body8 cc8 (by kernel_rfl) ?_
 rw [Try.ntmps8]
 simp only [frs,nA,nS]
 repeat (first | (with_reducible first | refine Way.imp ?_ | refine blk_o rfl ?_) | ((with_reducible refine WayR.imp (fun K hK=>?_));simp (disch:=first | omega | (simp only [dls];omega)) only [std,reduceIte,reduceCtorEq,iT,nA,nS,nM,iA,iS,iM,iN,fU,repBo];subst hK) | refine zcA (hf) rfl rfl rfl ?_ | (apply call_any_g (hr) rfl;(case hg=>simp (disch:=first | omega | (simp only [dls];omega)) only [std,reduceIte,reduceCtorEq,iT,nA,nS,nM,iA,iS,iM,iN,fU,repBo]);(case hcl=>(simp only [evs,St.ev,constAV,evl];(repeat (first | exact closeAVs_nil | (apply closeAVs_cons;(first | (refine close_own3 rfl (by decide)) | (refine close_ownO rfl (by decide) ?_;assumption) | rfl))));done));(case hu=>rfl)) | refine zcA (hcor) rfl rfl rfl ?_)
 refine AWp.fgt ?_ (Fgt.openNil (i:=8) rfl 23 1)
 simp only [List.set_cons_succ,List.set_cons_zero,List.length_nil,List.length_cons,List.nil_append,List.cons_append,nA]
 refine awp_loop (fun (zz:Nat × (List Bool) × (List VV) × Nat × Bool)=>⟨(.junk :: .junk :: .one (.ptr 0 0 0 0) :: .junk :: .junk :: aV xv :: aB is :: aB (((osl b).length:Int) == ((osl p.A).length:Int)) :: .one (.own 2 zz.2.2.2.1) :: .one (.own 1 0) :: .junk :: .junk :: .junk :: .junk :: .junk :: .junk :: .junk :: .junk :: .junk :: .junk :: .junk :: .junk :: .junk :: .junk :: .junk :: .junk :: .junk :: .junk :: .junk :: .junk :: .junk :: .junk :: .junk :: .junk :: .junk :: .junk :: .junk :: .junk :: .junk :: .junk :: .junk :: .junk :: .junk :: .junk :: .junk :: .junk :: .junk :: .junk :: .junk :: aIs b :: aI (osl b).length :: aI zz.1 :: .junk :: .junk :: .junk :: .junk :: .junk :: .junk :: .junk :: .junk :: .junk :: .junk :: .junk :: .junk :: .junk :: .junk :: .junk :: .junk :: .junk :: .junk :: .junk :: .junk :: .junk :: .junk :: .junk :: .junk :: .junk :: .junk :: .junk :: .junk :: .junk :: .junk :: .junk :: .junk :: .junk :: .junk :: .junk :: .junk :: .junk :: .junk :: .junk :: .junk :: .junk :: .junk :: .junk :: .junk :: .junk :: .junk :: .junk :: .junk :: .junk :: .junk :: .junk :: .junk :: .junk :: .junk :: .junk :: .junk :: .junk :: .junk :: .junk :: .junk :: .junk :: .junk :: .junk :: .junk :: .junk :: .junk :: .junk :: .junk :: .junk :: .junk :: .junk :: .junk :: .junk :: .junk :: .junk :: .junk :: .junk :: .junk :: .junk :: .junk :: .junk :: .junk :: .junk :: .junk :: .junk :: .junk :: .junk :: .junk :: .junk :: .junk :: .junk :: .junk :: .junk :: .junk :: .junk :: .junk :: .junk :: .junk :: .junk :: .junk :: .junk :: []),[⟨0,25,3,[[.c (encSl 1 fM p.A),.c (vr p.B),.c (vr p.C)]],true,true⟩,⟨0,4,1,encB fBo zz.2.1,true,true⟩,⟨zz.2.2.2.1,23,1,encB fM zz.2.2.1,true,zz.2.2.2.2⟩]⟩) (fun (zz:Nat × (List Bool) × (List VV) × Nat × Bool)=>zz.1 <= (osl b).length /\ plTo (osl p.C).length (osl b) zz.1 = true /\ zz.2.1 = insTo (osl p.C).length (osl b) zz.1 /\ zz.2.2.1 = (pcTo p (osl b) zz.1).map rowV /\ zz.2.2.2.2 = !zz.2.2.1.isEmpty) (fun (zz:Nat × (List Bool) × (List VV) × Nat × Bool)=>(osl b).length - zz.1) (0,List.replicate (osl p.C).length false,[],0,false) ?hI1 (Fgt.head (Nat.zero_le 3) (false :: false :: true :: false :: false :: true :: true :: true :: true :: true :: false :: false :: false :: false :: false :: false :: false :: false :: false :: false :: false :: false :: false :: false :: false :: false :: false :: false :: false :: false :: false :: false :: false :: false :: false :: false :: false :: false :: false :: false :: false :: false :: false :: false :: false :: false :: false :: false :: false :: true :: true :: true :: []) ?hT1 ?hH1) ?hB1
 case hT1=>first | (simp (disch:=omega) only [hds,liveT,cleanAV,cleanCell,clean1,cleanBlk,reduceIte,iS,iA,iN,encB_nil];done) | rfl
 case hH1=>first | (simp (disch:=omega) only [hds,liveT,cleanAV,cleanCell,clean1,cleanBlk,reduceIte,iS,iA,iN,encB_nil];done) | rfl
 ·dsimp only;exact ⟨Nat.zero_le _,rfl,(insTo_zero _ _).symm,rfl,rfl⟩
 rintro ⟨i,ins,out,u,nn⟩ ⟨hi,hs,hins,ho,hnn⟩
 dsimp only at hi hs hins ho hnn
 by_cases him:i = (osl b).length
 case neg =>
  have hlt:i < (osl b).length:=by omega
  have hg:(osl b).getD i 0 = (osl b)[i]:=by rw [List.getD_eq_getElem?_getD,List.getElem?_eq_getElem hlt];rfl
  have hpl:plB (osl p.C).length (osl b) i = (decide (0 <= (osl b)[i]) && (decide ((osl b)[i] < (osl p.C).length) && !((osl b).take i).contains (osl b)[i])):=by unfold plB;rw [hg]
  have hbad:plB (osl p.C).length (osl b) i = false -> is = false:=fun h=>by rw [his,plTo_false hlt h];simp
  have hinl:ins.length = (osl p.C).length:=by rw [hins,insTo_len]
  by_cases h0:0 <= (osl b)[i]
  ·by_cases h1:(osl b)[i] < (osl p.C).length
   ·have hzl:(osl b)[i].toNat < ins.length:=by omega
    have hzg:ins[(osl b)[i].toNat] = ((osl b).take i).contains (osl b)[i]:=by
     have:=insTo_at (l:=osl b) (i:=i) (show (osl b)[i].toNat < (osl p.C).length by omega)
     rw [<- hins,List.getD_eq_getElem?_getD,List.getElem?_eq_getElem hzl,Int.toNat_of_nonneg h0] at this
     exact this
    cases h2:((osl b).take i).contains (osl b)[i] with
    | false =>
     rw [h2] at hpl hzg
     have hcol:=col_yes p (osl b)[i].toNat 5000 3 hp.af (by decide) c2 (by omega)
     change PureC _ _ _ (.ret (aV (rowV (colTo p (osl b)[i].toNat (osl p.A).length)))) at hcol
     rw [Int.toNat_of_nonneg h0] at hcol
     have hnx:=pcTo_succ p (osl b) i
     rw [hg] at hnx
     have hol:out.length = i:=by rw [ho,List.length_map,pcTo_len]
     have hsn:∀ v:VV,encB fM out ++ [[Cell.c (vr v)]] = encB fM (out ++ [v]):=fun v=>by rw [<- encB_append];rfl
     have hsB:∀ (l:List Bool) (k:Nat) (z:Bool),(encB fBo l).set k [Cell.c (.val (.bool z))] = encB fBo (l.set k z):=fun l k z=>encB_set l k z
     repeat (first | (with_reducible first | refine Way.imp ?_ | refine blk_o rfl ?_) | ((with_reducible refine WayR.imp (fun K hK=>?_));simp (disch:=first | omega | (simp only [dls];omega)) only [std,reduceIte,reduceCtorEq,iT,nA,nS,nM,iA,iS,iM,iN,fU,fI,fBo,hzg,hsn,hsB];subst hK) | refine zcA (hcol) rfl rfl rfl ?_)
     refine ⟨(i + 1,ins.set (osl b)[i].toNat true,out ++ [rowV (colTo p (osl b)[i].toNat (osl p.A).length)],u + 1,true),?hI2,?hM2,Fgt.head (Nat.zero_le 3) (false :: false :: true :: false :: false :: true :: true :: true :: true :: true :: false :: false :: false :: false :: false :: false :: false :: false :: false :: false :: false :: false :: false :: false :: false :: false :: false :: false :: false :: false :: false :: false :: false :: false :: false :: false :: false :: false :: false :: false :: false :: false :: false :: false :: false :: false :: false :: false :: false :: true :: true :: true :: []) ?hT2 ?hH2⟩
     case hT2=>first | (simp (disch:=omega) only [hds,liveT,cleanAV,cleanCell,clean1,cleanBlk,reduceIte,iS,iA,iN,List.isEmpty_cons,Bool.or_true,Bool.not_false];done) | rfl
     case hH2=>first | (simp (disch:=omega) only [hds,liveT,cleanAV,cleanCell,clean1,cleanBlk,reduceIte,iS,iA,iN,List.isEmpty_cons,Bool.or_true,Bool.not_false];done) | rfl
     ·dsimp only
      exact ⟨hlt,by rw [plTo_succ,hs,hpl,decide_eq_true h0,decide_eq_true h1];rfl,by rw [hins,insTo_succ hlt h0 h1],by rw [hnx,ho,List.map_append];rfl,by cases out <;> rfl⟩
     ·dsimp only;omega
    | true =>
     rw [h2] at hpl hzg
     have hisf:=hbad (by rw [hpl];simp)
     subst hisf
     repeat (first | (with_reducible first | refine Way.imp ?_ | refine blk_o rfl ?_) | ((with_reducible refine WayR.imp (fun K hK=>?_));simp (disch:=first | omega | (simp only [dls];omega)) only [std,reduceIte,reduceCtorEq,iT,nA,nS,nM,iA,iS,iM,iN,fU,fI,fBo,hzg];subst hK) | (apply call_any_g (hw) rfl;(case hg=>simp (disch:=first | omega | (simp only [dls];omega)) only [std,reduceIte,reduceCtorEq,iT,nA,nS,nM,iA,iS,iM,iN,fU,fI,fBo,hzg]);(case hcl=>(simp only [evs,St.ev,constAV,evl];(repeat (first | exact closeAVs_nil | (apply closeAVs_cons;(first | (refine close_own3 rfl (by decide)) | (refine close_ownO rfl (by decide) ?_;assumption) | rfl))));done));(case hu=>rfl)))
     exact ⟨_,rfl,rfl⟩
   ·have hisf:=hbad (by rw [hpl,decide_eq_false h1];simp)
    subst hisf
    repeat (first | (with_reducible first | refine Way.imp ?_ | refine blk_o rfl ?_) | ((with_reducible refine WayR.imp (fun K hK=>?_));simp (disch:=first | omega | (simp only [dls];omega)) only [std,reduceIte,reduceCtorEq,iT,nA,nS,nM,iA,iS,iM,iN,fU,fI];subst hK) | (apply call_any_g (hw) rfl;(case hg=>simp (disch:=first | omega | (simp only [dls];omega)) only [std,reduceIte,reduceCtorEq,iT,nA,nS,nM,iA,iS,iM,iN,fU,fI]);(case hcl=>(simp only [evs,St.ev,constAV,evl];(repeat (first | exact closeAVs_nil | (apply closeAVs_cons;(first | (refine close_own3 rfl (by decide)) | (refine close_ownO rfl (by decide) ?_;assumption) | rfl))));done));(case hu=>rfl)))
    exact ⟨_,rfl,rfl⟩
  ·have hisf:=hbad (by rw [hpl,decide_eq_false h0];simp)
   subst hisf
   repeat (first | (with_reducible first | refine Way.imp ?_ | refine blk_o rfl ?_) | ((with_reducible refine WayR.imp (fun K hK=>?_));simp (disch:=first | omega | (simp only [dls];omega)) only [std,reduceIte,reduceCtorEq,iT,nA,nS,nM,iA,iS,iM,iN,fU,fI];subst hK) | (apply call_any_g (hw) rfl;(case hg=>simp (disch:=first | omega | (simp only [dls];omega)) only [std,reduceIte,reduceCtorEq,iT,nA,nS,nM,iA,iS,iM,iN,fU,fI]);(case hcl=>(simp only [evs,St.ev,constAV,evl];(repeat (first | exact closeAVs_nil | (apply closeAVs_cons;(first | (refine close_own3 rfl (by decide)) | (refine close_ownO rfl (by decide) ?_;assumption) | rfl))));done));(case hu=>rfl)))
   exact ⟨_,rfl,rfl⟩
 rw [him] at hs
 have e7:(((osl b).length:Int) == ((osl p.A).length:Int)) = decide ((osl b).length = (osl p.A).length):=by rw [Bool.eq_iff_iff,beq_iff_eq,decide_eq_true_eq];omega
 rw [e7]
 by_cases c3:(osl b).length = (osl p.A).length
 case neg =>
  have hisf:is = false:=by rw [his,decide_eq_false c3];rfl
  subst hisf
  rw [decide_eq_false c3]
  repeat (first | (with_reducible first | refine Way.imp ?_ | refine blk_o rfl ?_) | ((with_reducible refine WayR.imp (fun K hK=>?_));simp (disch:=first | omega | (simp only [dls];omega)) only [std,reduceIte,reduceCtorEq,iT,nA,nS,nM,iA,iS,iM,iN,fU];subst hK) | (apply call_any_g (hw) rfl;(case hg=>simp (disch:=first | omega | (simp only [dls];omega)) only [std,reduceIte,reduceCtorEq,iT,nA,nS,nM,iA,iS,iM,iN,fU]);(case hcl=>(simp only [evs,St.ev,constAV,evl];(repeat (first | exact closeAVs_nil | (apply closeAVs_cons;(first | (refine close_own3 rfl (by decide)) | (refine close_ownO rfl (by decide) ?_;assumption) | rfl))));done));(case hu=>rfl)))
  exact ⟨_,rfl,rfl⟩
 rw [decide_eq_true c3] at his ⊢
 rw [hs,Bool.true_and,Bool.true_and] at his
 have hwf:=pc_wf (l:=osl b) hp
 have hout:rowO out = mL (pcTo p (osl b) (osl p.A).length):=by rw [ho,him,c3];rfl
 have hol:out.length = (osl p.A).length:=by rw [ho,List.length_map,pcTo_len,him,c3]
 have hrk:=rank_C (rowO out) 200 3 (by rw [hout];exact fits_mL hwf (by omega) (by omega)) (by decide) (by decide) (by rw [osl_rowO,hol];exact Nat.le_trans hp.l3 (by decide))
 have hri:=rank_iff (l:=osl b) hp f4
 rw [<- hout] at hri
 generalize rankQ (rowO out) = rk at hrk hri
 by_cases c5:rk = (osl p.A).length
 case neg =>
  have hisf:is = false:=by rw [his];exact cornS_no c3 hs (fun h=>c5 (hri.2 h))
  subst hisf
  repeat (first | (with_reducible first | refine Way.imp ?_ | refine blk_o rfl ?_) | ((with_reducible refine WayR.imp (fun K hK=>?_));simp (disch:=first | omega | (simp only [dls];omega)) only [std,reduceIte,reduceCtorEq,iT,nA,nS,nM,iA,iS,iM,iN,fU];subst hK) | (apply call_flat_g (by simp (disch:=first | omega | (simp only [dls];omega)) only [std,reduceIte,reduceCtorEq,iT,nA,nS,nM,iA,iS,iM,iN,fU]) (hrk) rfl;(case hcl=>(simp only [evs,St.ev,constAV,evl];(repeat (first | exact closeAVs_nil | (apply closeAVs_cons;(first | (refine close_own3 rfl (by decide)) | (refine close_ownO rfl (by decide) ?_;assumption) | rfl))));done));(case hf=>rfl)) | (apply call_any_g (hw) rfl;(case hg=>simp (disch:=first | omega | (simp only [dls];omega)) only [std,reduceIte,reduceCtorEq,iT,nA,nS,nM,iA,iS,iM,iN,fU]);(case hcl=>(simp only [evs,St.ev,constAV,evl];(repeat (first | exact closeAVs_nil | (apply closeAVs_cons;(first | (refine close_own3 rfl (by decide)) | (refine close_ownO rfl (by decide) ?_;assumption) | rfl))));done));(case hu=>rfl)))
  exact ⟨_,rfl,rfl⟩
 have hind:=hri.1 c5
 rw [c5] at hrk
 clear hri
 have hinl:ins.length = (osl p.C).length:=by rw [hins,insTo_len]
 obtain ⟨hbs,hlt⟩:=natsOf_bsl c3 hs
 have hB:=corn_bok c3 hs hind
 cases is with
 | false =>
  obtain ⟨s1,s2⟩:=corn_sol hp c3 hs hind
  have hxl:(xL (sdB p) (natsOf (osl b))).length = (osl p.A).length:=x_len (sd_wf (pfOf p)) hB
  have hneg:belTo (xL (sdB p) (natsOf (osl b))) (osl p.A).length = true:=by
   cases h:belTo (xL (sdB p) (natsOf (osl b))) (osl p.A).length with
   | true=>rfl
   | false =>
    exfalso
    have:=corn_cok c2 c3 hs hind (fun j hj=>by
     have:=anyI_false h hj
     rw [decide_eq_false_iff_not,Rat.not_lt] at this
     exact this)
    rw [this] at his
    cases his
  have hm0:(osl p.A).length ≠ 0:=fun h=>by
   rw [h] at hneg
   exact absurd hneg (by simp [belTo,anyI])
  have htn:=turn_L (pcTo p (osl b) (osl p.A).length) (osl p.A).length 3 hwf (by omega) (by decide)
  rw [<- hout] at htn
  obtain ⟨l1,l2,l3,l4⟩:=right_len c2
  have hso:=solve_V (turnL (osl p.A).length (pcTo p (osl b) (osl p.A).length)) p.B (osl p.A).length 3 (wf_turnL hwf) l3 hp.bf.2 (by omega) (by decide) (by decide) (Nat.le_trans hp.l3 (by decide))
  rw [s1,s2,if_pos rfl] at hso
  have fx:∀ q ∈ xL (sdB p) (natsOf (osl b)),FitsQ q 1024:=fun q hq=>by
   have k4:∀ m,m <= 4 -> 4 ^ m * (3 + 1) <= 1024:=by decide
   exact (fits_sol (wf_turnL (wf_sq hp.sd hB.len)) (by decide) hp.sd.bl hp.sd.bf q hq).mono (k4 _ f4)
  generalize xL (sdB p) (natsOf (osl b)) = xs at *
  have hrx:=len_rowV xs
  have hb0:belTo xs 0 = false:=rfl
  repeat (first | (with_reducible first | refine Way.imp ?_ | refine blk_o rfl ?_) | ((with_reducible refine WayR.imp (fun K hK=>?_));simp (disch:=first | omega | (simp only [dls];omega)) only [std,reduceIte,reduceCtorEq,iT,nA,nS,nM,iA,iS,iM,iN,fU];subst hK) | (apply call_flat_g (by simp (disch:=first | omega | (simp only [dls];omega)) only [std,reduceIte,reduceCtorEq,iT,nA,nS,nM,iA,iS,iM,iN,fU]) (hrk) rfl;(case hcl=>(simp only [evs,St.ev,constAV,evl];(repeat (first | exact closeAVs_nil | (apply closeAVs_cons;(first | (refine close_own3 rfl (by decide)) | (refine close_ownO rfl (by decide) ?_;assumption) | rfl))));done));(case hf=>rfl)) | (apply call_ret_b 2 (htn) rfl;(case hcl=>(simp only [evs,St.ev,constAV,evl];(repeat (first | exact closeAVs_nil | (apply closeAVs_cons;(first | (refine close_own3 rfl (by decide)) | (refine close_ownO rfl (by decide) ?_;assumption) | rfl))));done));(case hu=>(simp only [evs,St.ev,constAV,evl];(repeat (first | exact used_nil | (apply used_cons;(first | (apply used_own3;rfl) | rfl))));done));(case h1=>((simp only [fzl,nB,nA,Bool.false_eq_true,if_true,if_false,reduceIte]) <;> rfl));(case h2=>rfl);intro bb;simp only [setLive_zero,setLive_succ]) | refine zcA (hso) rfl rfl rfl ?_)
  refine awp_loop (fun (zz:Nat)=>⟨(.junk :: .junk :: .junk :: .junk :: .junk :: .junk :: .junk :: .junk :: .junk :: .junk :: .junk :: .junk :: .junk :: aI 0 :: aB (belTo xs zz) :: .junk :: .junk :: .junk :: .junk :: .junk :: .junk :: .junk :: .junk :: .junk :: .junk :: .junk :: .junk :: .junk :: .junk :: .junk :: .junk :: .junk :: .junk :: .junk :: .junk :: .junk :: .junk :: .junk :: .junk :: .junk :: .junk :: .junk :: .junk :: .junk :: .junk :: .junk :: .junk :: .junk :: .junk :: .junk :: .junk :: .junk :: .junk :: .junk :: .junk :: .junk :: .junk :: .junk :: .junk :: .junk :: .junk :: .junk :: .junk :: .junk :: .junk :: .junk :: .junk :: .junk :: .junk :: .junk :: .junk :: .junk :: .junk :: .junk :: .junk :: .junk :: .junk :: .junk :: .junk :: .junk :: .junk :: .junk :: .junk :: .junk :: .junk :: .junk :: .junk :: .junk :: .junk :: .junk :: .junk :: .junk :: .junk :: .junk :: .junk :: .junk :: .junk :: .junk :: .junk :: .junk :: .junk :: .junk :: .junk :: .junk :: .junk :: .junk :: .junk :: .junk :: aV (rowV xs) :: aI xs.length :: aI zz :: .junk :: .junk :: .junk :: .junk :: .junk :: .junk :: .junk :: .junk :: .junk :: .junk :: .junk :: .junk :: .junk :: .junk :: .junk :: .junk :: .junk :: .junk :: .junk :: .junk :: .junk :: .junk :: .junk :: .junk :: .junk :: .junk :: .junk :: .junk :: .junk :: .junk :: .junk :: .junk :: .junk :: .junk :: .junk :: .junk :: .junk :: .junk :: .junk :: .junk :: .junk :: .junk :: []),[]⟩) (fun (zz:Nat)=>zz <= xs.length) (fun (zz:Nat)=>xs.length - zz) (0) ?hI3 (Fgt.head (Nat.zero_le 0) (false :: false :: false :: false :: false :: false :: false :: false :: false :: false :: false :: false :: false :: true :: true :: false :: false :: false :: false :: false :: false :: false :: false :: false :: false :: false :: false :: false :: false :: false :: false :: false :: false :: false :: false :: false :: false :: false :: false :: false :: false :: false :: false :: false :: false :: false :: false :: false :: false :: false :: false :: false :: false :: false :: false :: false :: false :: false :: false :: false :: false :: false :: false :: false :: false :: false :: false :: false :: false :: false :: false :: false :: false :: false :: false :: false :: false :: false :: false :: false :: false :: false :: false :: false :: false :: false :: false :: false :: false :: false :: false :: false :: false :: false :: false :: false :: false :: false :: false :: false :: false :: false :: false :: false :: false :: false :: false :: false :: true :: true :: true :: []) ?hT3 ?hH3) ?hB3
  case hT3=>first | (simp (disch:=omega) only [hds,liveT,cleanAV,cleanCell,clean1,cleanBlk,reduceIte,iS,iA,iN,hrx,hb0];done) | rfl
  case hH3=>first | (simp (disch:=omega) only [hds,liveT,cleanAV,cleanCell,clean1,cleanBlk,reduceIte,iS,iA,iN,hrx,hb0];done) | rfl
  ·exact Nat.zero_le _
  rintro j hj
  by_cases hje:j = xs.length
  ·have hb2:belTo xs j = true:=by rw [hje,hxl];exact hneg
   rw [hb2]
   repeat (first | (with_reducible first | refine Way.imp ?_ | refine blk_o rfl ?_) | ((with_reducible refine WayR.imp (fun K hK=>?_));simp (disch:=first | omega | (simp only [dls];omega)) only [std,reduceIte,reduceCtorEq,iT,nA,nS,nM,iA,iS,iM,iN,fU];subst hK) | (apply call_any_g (hw) rfl;(case hg=>simp (disch:=first | omega | (simp only [dls];omega)) only [std,reduceIte,reduceCtorEq,iT,nA,nS,nM,iA,iS,iM,iN,fU]);(case hcl=>(simp only [evs,St.ev,constAV,evl];(repeat (first | exact closeAVs_nil | (apply closeAVs_cons;(first | (refine close_own3 rfl (by decide)) | (refine close_ownO rfl (by decide) ?_;assumption) | rfl))));done));(case hu=>rfl)))
   exact ⟨_,rfl,rfl⟩
  ·have hjl:j < xs.length:=by omega
   have hj1:j < (osl (rowV xs)).length:=by omega
   have hrg:=rowV_at hj1
   have hsg:=rsign_C (rawQ (xs.getD j 0)) (fits_rawQ ((fx _ (by rw [List.getD_eq_getElem?_getD,List.getElem?_eq_getElem hjl];exact List.getElem_mem _)).mono (by decide)))
   have hsl:=sgn_low3 (rawQ (xs.getD j 0))
   rw [rawQ_val] at hsl
   have hnx:belTo xs (j + 1) = (belTo xs j || decide (xs.getD j 0 < 0)):=by unfold belTo;rw [anyI_succ]
   generalize sgn (rawQ (xs.getD j 0)).top = z at hsg hsl
   cases hb2:belTo xs j with
   | true =>
    rw [hb2,Bool.true_or] at hnx
    repeat (first | (with_reducible first | refine Way.imp ?_ | refine blk_o rfl ?_) | ((with_reducible refine WayR.imp (fun K hK=>?_));simp (disch:=first | omega | (simp only [dls];omega)) only [std,reduceIte,reduceCtorEq,iT,nA,nS,nM,iA,iS,iM,iN,fU,fR,hrg];subst hK))
    refine ⟨(j + 1),?hI4,?hM4,Fgt.head (Nat.zero_le 0) (false :: false :: false :: false :: false :: false :: false :: false :: false :: false :: false :: false :: false :: true :: true :: false :: false :: false :: false :: false :: false :: false :: false :: false :: false :: false :: false :: false :: false :: false :: false :: false :: false :: false :: false :: false :: false :: false :: false :: false :: false :: false :: false :: false :: false :: false :: false :: false :: false :: false :: false :: false :: false :: false :: false :: false :: false :: false :: false :: false :: false :: false :: false :: false :: false :: false :: false :: false :: false :: false :: false :: false :: false :: false :: false :: false :: false :: false :: false :: false :: false :: false :: false :: false :: false :: false :: false :: false :: false :: false :: false :: false :: false :: false :: false :: false :: false :: false :: false :: false :: false :: false :: false :: false :: false :: false :: false :: false :: true :: true :: true :: []) ?hT4 ?hH4⟩
    case hT4=>first | (simp (disch:=omega) only [hds,liveT,cleanAV,cleanCell,clean1,cleanBlk,reduceIte,iS,iA,iN,hnx];done) | rfl
    case hH4=>first | (simp (disch:=omega) only [hds,liveT,cleanAV,cleanCell,clean1,cleanBlk,reduceIte,iS,iA,iN,hnx];done) | rfl
    ·exact hjl
    ·show xs.length - (j + 1) < xs.length - j;omega
   | false =>
    rw [hb2,Bool.false_or] at hnx
    by_cases hz:z < 0
    ·rw [decide_eq_true (hsl.1 hz)] at hnx
     repeat (first | (with_reducible first | refine Way.imp ?_ | refine blk_o rfl ?_) | ((with_reducible refine WayR.imp (fun K hK=>?_));simp (disch:=first | omega | (simp only [dls];omega)) only [std,reduceIte,reduceCtorEq,iT,nA,nS,nM,iA,iS,iM,iN,fU,fR,hrg];subst hK) | (apply call_any_g (hsg) rfl;(case hg=>simp (disch:=first | omega | (simp only [dls];omega)) only [std,reduceIte,reduceCtorEq,iT,nA,nS,nM,iA,iS,iM,iN,fU,fR,hrg]);(case hcl=>(simp only [evs,St.ev,constAV,evl];(repeat (first | exact closeAVs_nil | (apply closeAVs_cons;(first | (refine close_own3 rfl (by decide)) | (refine close_ownO rfl (by decide) ?_;assumption) | rfl))));done));(case hu=>rfl)))
     refine ⟨(j + 1),?hI5,?hM5,Fgt.head (Nat.zero_le 0) (false :: false :: false :: false :: false :: false :: false :: false :: false :: false :: false :: false :: false :: true :: true :: false :: false :: false :: false :: false :: false :: false :: false :: false :: false :: false :: false :: false :: false :: false :: false :: false :: false :: false :: false :: false :: false :: false :: false :: false :: false :: false :: false :: false :: false :: false :: false :: false :: false :: false :: false :: false :: false :: false :: false :: false :: false :: false :: false :: false :: false :: false :: false :: false :: false :: false :: false :: false :: false :: false :: false :: false :: false :: false :: false :: false :: false :: false :: false :: false :: false :: false :: false :: false :: false :: false :: false :: false :: false :: false :: false :: false :: false :: false :: false :: false :: false :: false :: false :: false :: false :: false :: false :: false :: false :: false :: false :: false :: true :: true :: true :: []) ?hT5 ?hH5⟩
     case hT5=>first | (simp (disch:=omega) only [hds,liveT,cleanAV,cleanCell,clean1,cleanBlk,reduceIte,iS,iA,iN,hnx];done) | rfl
     case hH5=>first | (simp (disch:=omega) only [hds,liveT,cleanAV,cleanCell,clean1,cleanBlk,reduceIte,iS,iA,iN,hnx];done) | rfl
     ·exact hjl
     ·show xs.length - (j + 1) < xs.length - j;omega
    ·rw [decide_eq_false (fun h=>hz (hsl.2 h))] at hnx
     repeat (first | (with_reducible first | refine Way.imp ?_ | refine blk_o rfl ?_) | ((with_reducible refine WayR.imp (fun K hK=>?_));simp (disch:=first | omega | (simp only [dls];omega)) only [std,reduceIte,reduceCtorEq,iT,nA,nS,nM,iA,iS,iM,iN,fU,fR,hrg];subst hK) | (apply call_any_g (hsg) rfl;(case hg=>simp (disch:=first | omega | (simp only [dls];omega)) only [std,reduceIte,reduceCtorEq,iT,nA,nS,nM,iA,iS,iM,iN,fU,fR,hrg]);(case hcl=>(simp only [evs,St.ev,constAV,evl];(repeat (first | exact closeAVs_nil | (apply closeAVs_cons;(first | (refine close_own3 rfl (by decide)) | (refine close_ownO rfl (by decide) ?_;assumption) | rfl))));done));(case hu=>rfl)))
     refine ⟨(j + 1),?hI6,?hM6,Fgt.head (Nat.zero_le 0) (false :: false :: false :: false :: false :: false :: false :: false :: false :: false :: false :: false :: false :: true :: true :: false :: false :: false :: false :: false :: false :: false :: false :: false :: false :: false :: false :: false :: false :: false :: false :: false :: false :: false :: false :: false :: false :: false :: false :: false :: false :: false :: false :: false :: false :: false :: false :: false :: false :: false :: false :: false :: false :: false :: false :: false :: false :: false :: false :: false :: false :: false :: false :: false :: false :: false :: false :: false :: false :: false :: false :: false :: false :: false :: false :: false :: false :: false :: false :: false :: false :: false :: false :: false :: false :: false :: false :: false :: false :: false :: false :: false :: false :: false :: false :: false :: false :: false :: false :: false :: false :: false :: false :: false :: false :: false :: false :: false :: true :: true :: true :: []) ?hT6 ?hH6⟩
     case hT6=>first | (simp (disch:=omega) only [hds,liveT,cleanAV,cleanCell,clean1,cleanBlk,reduceIte,iS,iA,iN,hnx];done) | rfl
     case hH6=>first | (simp (disch:=omega) only [hds,liveT,cleanAV,cleanCell,clean1,cleanBlk,reduceIte,iS,iA,iN,hnx];done) | rfl
     ·exact hjl
     ·show xs.length - (j + 1) < xs.length - j;omega
 | true =>
  have hX:=hxv rfl
  subst hX
  have hcs:cornS p (osl b) = true:=his.symm
  have hd:doesB p (rowV (cornX p (osl b))) = true:=by
   unfold cornS at hcs
   simp only [Bool.and_eq_true] at hcs
   exact hcs.2
  have hXl:(cornX p (osl b)).length = (osl p.C).length:=by unfold cornX;exact spreadL_len _ _ _
  have k4:∀ m,m <= 4 -> 4 ^ m * (3 + 1) <= 1024 /\ 1 <= 4 ^ m * (3 + 1):=by decide
  have fX:FAll (cornX p (osl b)) 1024:=fun q hq=>(fall_spread (fun q hq=>fits_sol (wf_turnL (wf_sq hp.sd hB.len)) (by decide) hp.sd.bl hp.sd.bf q hq) (k4 _ f4).2 q hq).mono (k4 _ f4).1
  have fm:∀ {v:VV},FitsV v 8 3 -> FitsV v 8 1024:=fun h=>h.monoL (by decide)
  have hdo:=does_C p (rowV (cornX p (osl b))) 8 1024 ⟨⟨fp.1.1,fun v hv=>fm (fp.1.2 v hv)⟩,fm fp.2.1,fm fp.2.2⟩ (fits_rowV (by omega) fX) (by decide) (by decide) (by decide)
  rw [hd] at hdo
  have hzero:∀ k,k < (osl p.C).length -> ins.getD k false = false -> (cornX p (osl b)).getD k 0 = 0:=fun k hk hin=>by
   rw [hins,insTo_at hk,him,List.take_length] at hin
   have e:=spread_full hB (xL (sdB p) (natsOf (osl b))) (v:=k) hk
   refine (show _ = _ from e).trans (full_out _ (fun ⟨j,hj,ej⟩=>?_))
   have hj2:j < (osl b).length:=by rw [c3];exact hj
   have e2:bsF (natsOf (osl b)) j = ((osl b).getD j 0).toNat:=getD_map0 (osl b) Int.toNat j 0 0 hj2
   have hpj:=plTo_at hs hj2
   unfold plB at hpj
   simp only [Bool.and_eq_true,decide_eq_true_eq] at hpj
   have hmem:(k:Int) ∈ osl b:=by
    have e3:(k:Int) = (osl b).getD j 0:=by rw [<- ej,e2];omega
    rw [e3,List.getD_eq_getElem?_getD,List.getElem?_eq_getElem hj2]
    exact List.getElem_mem hj2
   have:=List.contains_iff_mem.2 hmem
   rw [this] at hin
   cases hin
  generalize cornX p (osl b) = X at *
  have hrx:=len_rowV X
  repeat (first | (with_reducible first | refine Way.imp ?_ | refine blk_o rfl ?_) | ((with_reducible refine WayR.imp (fun K hK=>?_));simp (disch:=first | omega | (simp only [dls];omega)) only [std,reduceIte,reduceCtorEq,iT,nA,nS,nM,iA,iS,iM,iN,fU];subst hK) | (apply call_flat_g (by simp (disch:=first | omega | (simp only [dls];omega)) only [std,reduceIte,reduceCtorEq,iT,nA,nS,nM,iA,iS,iM,iN,fU]) (hrk) rfl;(case hcl=>(simp only [evs,St.ev,constAV,evl];(repeat (first | exact closeAVs_nil | (apply closeAVs_cons;(first | (refine close_own3 rfl (by decide)) | (refine close_ownO rfl (by decide) ?_;assumption) | rfl))));done));(case hf=>rfl)))
  refine awp_loop (fun (zz:Nat)=>⟨(.junk :: .junk :: .one (.ptr 0 0 0 0) :: .junk :: .junk :: aV (rowV X) :: .junk :: .junk :: .junk :: .one (.own 1 0) :: .junk :: .junk :: .junk :: .junk :: .junk :: .junk :: .junk :: .junk :: .junk :: .junk :: .junk :: .junk :: .junk :: .junk :: .junk :: .junk :: .junk :: .junk :: .junk :: .junk :: .junk :: .junk :: .junk :: .junk :: .junk :: .junk :: .junk :: .junk :: .junk :: .junk :: .junk :: .junk :: .junk :: .junk :: .junk :: .junk :: .junk :: .junk :: .junk :: .junk :: .junk :: .junk :: .junk :: .junk :: .junk :: .junk :: .junk :: .junk :: .junk :: .junk :: .junk :: .junk :: .junk :: .junk :: .junk :: .junk :: .junk :: .junk :: .junk :: .junk :: .junk :: .junk :: .junk :: .junk :: .junk :: .junk :: .junk :: .junk :: .junk :: .junk :: .junk :: .junk :: .junk :: .junk :: .junk :: .junk :: .junk :: .junk :: .junk :: .junk :: .junk :: .junk :: .junk :: .junk :: .junk :: .junk :: .junk :: .junk :: .junk :: .junk :: .junk :: .junk :: .junk :: .junk :: .junk :: .junk :: .junk :: .junk :: .junk :: .junk :: .junk :: .junk :: .junk :: .junk :: .junk :: .junk :: .junk :: .junk :: .junk :: .junk :: .junk :: .junk :: .junk :: .junk :: .junk :: .junk :: .junk :: .junk :: .junk :: aV (rowV X) :: aI X.length :: aI zz :: .junk :: .junk :: .junk :: .junk :: .junk :: .junk :: .junk :: .junk :: .junk :: .junk :: .junk :: .junk :: .junk :: .junk :: .junk :: .junk :: .junk :: .junk :: .junk :: .junk :: .junk :: []),[⟨0,25,3,[[.c (encSl 1 fM p.A),.c (vr p.B),.c (vr p.C)]],true,true⟩,⟨0,4,1,encB fBo ins,true,true⟩]⟩) (fun (zz:Nat)=>zz <= X.length) (fun (zz:Nat)=>X.length - zz) (0) ?hI7 (Fgt.head (Nat.zero_le 2) (false :: false :: true :: false :: false :: true :: false :: false :: false :: true :: false :: false :: false :: false :: false :: false :: false :: false :: false :: false :: false :: false :: false :: false :: false :: false :: false :: false :: false :: false :: false :: false :: false :: false :: false :: false :: false :: false :: false :: false :: false :: false :: false :: false :: false :: false :: false :: false :: false :: false :: false :: false :: false :: false :: false :: false :: false :: false :: false :: false :: false :: false :: false :: false :: false :: false :: false :: false :: false :: false :: false :: false :: false :: false :: false :: false :: false :: false :: false :: false :: false :: false :: false :: false :: false :: false :: false :: false :: false :: false :: false :: false :: false :: false :: false :: false :: false :: false :: false :: false :: false :: false :: false :: false :: false :: false :: false :: false :: false :: false :: false :: false :: false :: false :: false :: false :: false :: false :: false :: false :: false :: false :: false :: false :: false :: false :: false :: false :: false :: true :: true :: true :: []) ?hT7 ?hH7) ?hB7
  case hT7=>first | (simp (disch:=omega) only [hds,liveT,cleanAV,cleanCell,clean1,cleanBlk,reduceIte,iS,iA,iN,hrx];done) | rfl
  case hH7=>first | (simp (disch:=omega) only [hds,liveT,cleanAV,cleanCell,clean1,cleanBlk,reduceIte,iS,iA,iN,hrx];done) | rfl
  ·exact Nat.zero_le _
  rintro j hj
  by_cases hje:j = X.length
  ·repeat (first | (with_reducible first | refine Way.imp ?_ | refine blk_o rfl ?_) | ((with_reducible refine WayR.imp (fun K hK=>?_));simp (disch:=first | omega | (simp only [dls];omega)) only [std,reduceIte,reduceCtorEq,iT,nA,nS,nM,iA,iS,iM,iN,fU];subst hK) | refine zcA (hdo) rfl rfl rfl ?_ | (apply call_any_g (hw) rfl;(case hg=>simp (disch:=first | omega | (simp only [dls];omega)) only [std,reduceIte,reduceCtorEq,iT,nA,nS,nM,iA,iS,iM,iN,fU]);(case hcl=>(simp only [evs,St.ev,constAV,evl];(repeat (first | exact closeAVs_nil | (apply closeAVs_cons;(first | (refine close_own3 rfl (by decide)) | (refine close_ownO rfl (by decide) ?_;assumption) | rfl))));done));(case hu=>rfl)))
   exact ⟨_,rfl,rfl⟩
  ·have hjl:j < X.length:=by omega
   have hj1:j < (osl (rowV X)).length:=by omega
   have hj2:j < ins.length:=by omega
   have hrg:=rowV_at hj1
   have hz:=hzero j (by omega)
   rw [List.getD_eq_getElem?_getD,List.getElem?_eq_getElem hj2] at hz
   cases hin:ins[j] with
   | true =>
    repeat (first | (with_reducible first | refine Way.imp ?_ | refine blk_o rfl ?_) | ((with_reducible refine WayR.imp (fun K hK=>?_));simp (disch:=first | omega | (simp only [dls];omega)) only [std,reduceIte,reduceCtorEq,iT,nA,nS,nM,iA,iS,iM,iN,fU,fR,fBo,hrg,hin];subst hK))
    refine ⟨(j + 1),?hI8,?hM8,Fgt.head (Nat.zero_le 2) (false :: false :: true :: false :: false :: true :: false :: false :: false :: true :: false :: false :: false :: false :: false :: false :: false :: false :: false :: false :: false :: false :: false :: false :: false :: false :: false :: false :: false :: false :: false :: false :: false :: false :: false :: false :: false :: false :: false :: false :: false :: false :: false :: false :: false :: false :: false :: false :: false :: false :: false :: false :: false :: false :: false :: false :: false :: false :: false :: false :: false :: false :: false :: false :: false :: false :: false :: false :: false :: false :: false :: false :: false :: false :: false :: false :: false :: false :: false :: false :: false :: false :: false :: false :: false :: false :: false :: false :: false :: false :: false :: false :: false :: false :: false :: false :: false :: false :: false :: false :: false :: false :: false :: false :: false :: false :: false :: false :: false :: false :: false :: false :: false :: false :: false :: false :: false :: false :: false :: false :: false :: false :: false :: false :: false :: false :: false :: false :: false :: true :: true :: true :: []) ?hT8 ?hH8⟩
    case hT8=>first | (simp (disch:=omega) only [hds,liveT,cleanAV,cleanCell,clean1,cleanBlk,reduceIte,iS,iA,iN];done) | rfl
    case hH8=>first | (simp (disch:=omega) only [hds,liveT,cleanAV,cleanCell,clean1,cleanBlk,reduceIte,iS,iA,iN];done) | rfl
    ·exact hjl
    ·show X.length - (j + 1) < X.length - j;omega
   | false =>
    have hsg:=rsign_C (rawQ (X.getD j 0)) (fits_rawQ ((fX _ (by rw [List.getD_eq_getElem?_getD,List.getElem?_eq_getElem hjl];exact List.getElem_mem _)).mono (by decide)))
    rw [(sgn_nz _).2 (hz hin)] at hsg
    repeat (first | (with_reducible first | refine Way.imp ?_ | refine blk_o rfl ?_) | ((with_reducible refine WayR.imp (fun K hK=>?_));simp (disch:=first | omega | (simp only [dls];omega)) only [std,reduceIte,reduceCtorEq,iT,nA,nS,nM,iA,iS,iM,iN,fU,fR,fBo,hrg,hin];subst hK) | (apply call_any_g (hsg) rfl;(case hg=>simp (disch:=first | omega | (simp only [dls];omega)) only [std,reduceIte,reduceCtorEq,iT,nA,nS,nM,iA,iS,iM,iN,fU,fR,fBo,hrg,hin]);(case hcl=>(simp only [evs,St.ev,constAV,evl];(repeat (first | exact closeAVs_nil | (apply closeAVs_cons;(first | (refine close_own3 rfl (by decide)) | (refine close_ownO rfl (by decide) ?_;assumption) | rfl))));done));(case hu=>rfl)))
    refine ⟨(j + 1),?hI9,?hM9,Fgt.head (Nat.zero_le 2) (false :: false :: true :: false :: false :: true :: false :: false :: false :: true :: false :: false :: false :: false :: false :: false :: false :: false :: false :: false :: false :: false :: false :: false :: false :: false :: false :: false :: false :: false :: false :: false :: false :: false :: false :: false :: false :: false :: false :: false :: false :: false :: false :: false :: false :: false :: false :: false :: false :: false :: false :: false :: false :: false :: false :: false :: false :: false :: false :: false :: false :: false :: false :: false :: false :: false :: false :: false :: false :: false :: false :: false :: false :: false :: false :: false :: false :: false :: false :: false :: false :: false :: false :: false :: false :: false :: false :: false :: false :: false :: false :: false :: false :: false :: false :: false :: false :: false :: false :: false :: false :: false :: false :: false :: false :: false :: false :: false :: false :: false :: false :: false :: false :: false :: false :: false :: false :: false :: false :: false :: false :: false :: false :: false :: false :: false :: false :: false :: false :: true :: true :: true :: []) ?hT9 ?hH9⟩
    case hT9=>first | (simp (disch:=omega) only [hds,liveT,cleanAV,cleanCell,clean1,cleanBlk,reduceIte,iS,iA,iN];done) | rfl
    case hH9=>first | (simp (disch:=omega) only [hds,liveT,cleanAV,cleanCell,clean1,cleanBlk,reduceIte,iS,iA,iN];done) | rfl
    ·exact hjl
    ·show X.length - (j + 1) < X.length - j;omega
end Go.Proofs.Ytncgbjhojbnecaa
