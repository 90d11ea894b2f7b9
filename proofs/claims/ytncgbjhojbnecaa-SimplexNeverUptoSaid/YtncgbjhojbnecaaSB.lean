/- Walks of shape: Column, With. -/
import Derived.Test.YtncgbjhojbnecaaMB
import Derived.Test.YtncgbjhojbnecaaSA
set_option linter.unusedSimpArgs false
set_option linter.unusedVariables false
set_option linter.unnecessarySimpa false
set_option maxRecDepth 100000
set_option maxHeartbeats 4000000
namespace Go.Proofs.Ytncgbjhojbnecaa
open Go Go.Am Go.Proofs Go.RowKit Go.Off
open Nat renaming reduceAdd -> nA,reduceSub -> nS,reduceMul -> nM,reduceBEq -> nB
open Int renaming reduceToNat -> iT,reduceAdd -> iA,reduceSub -> iS,reduceMul -> iM,reduceNeg -> iN
theorem right_len {p:PB} (h:rightB p = true):(osl p.C).length <= 5000 /\ (osl p.A).length <= 90 /\ (osl p.B).length = (osl p.A).length /\ ∀ i (hi:i < (osl p.A).length),(osl (osl p.A)[i]).length = (osl p.C).length:=by
 unfold rightB at h
 simp only [Bool.and_eq_true,decide_eq_true_eq] at h
 obtain ⟨h1,h2,h3,h4⟩:=h
 have h4':anyI (rowBad p) (osl p.A).length = false:=by simpa using h4
 refine ⟨h1,h2,h3,fun i hi=>?_⟩
 have:=anyI_false h4' hi
 unfold rowBad at this
 rw [mAt_in hi] at this
 simpa using this
theorem make_C (r:RR) (L:Nat) (h:Fits r L) (hL:L <= 1000000):PureC Try.prog 47 [aW (RRnum r),aN r.den] (.ret (aR (rawQ r.val))):=by
 have hmk:=rmake_C (RRnum r) r.den (Nat.le_trans h.1 (by omega)) (Nat.le_trans h.2 (by omega))
 rw [num_top,denR_bot] at hmk
 exact hmk
def colTo (p:PB) (k n:Nat):List Rat:=(List.range n).map fun i=>qAt (mAt p.A i) k
theorem colTo_succ (p:PB) (k n:Nat):colTo p k (n + 1) = colTo p k n ++ [qAt (mAt p.A n) k]:=by unfold colTo;rw [List.range_succ,List.map_append];rfl
theorem colTo_len (p:PB) (k n:Nat):(colTo p k n).length = n:=by unfold colTo;rw [List.length_map,List.length_range]
abbrev c28_k1:CC:=(.seq (.reg [⟨some 44,none,.mv (.tmp 5)⟩,⟨some 4,none,.mv (.tmp 44)⟩]) .ret)
abbrev c28_b1:CC:=(.seq (.reg [⟨some 26,none,.bin .lss (.tmp 25) (.tmp 24)⟩]) (.seq (.cond (.tmp 26) .skip (.exit 0)) (.seq (.block 1 (.seq (.reg [⟨some 27,none,.iaddr 1 none (.tmp 23) (.tmp 25)⟩,⟨some 28,none,.load 1 false (.tmp 27)⟩,⟨some 7,none,.mv (.tmp 28)⟩]) (.reg [⟨some 29,none,.mv (.tmp 5)⟩,⟨some 30,none,.mv (.tmp 7)⟩,⟨some 31,none,.mv (.tmp 1)⟩,⟨some 32,none,.iaddr 3 none (.tmp 30) (.tmp 31)⟩,⟨some 33,none,.faddr 0 (.tmp 32)⟩,⟨some 34,none,.load 2 true (.tmp 33)⟩,⟨some 35,none,.mv (.tmp 7)⟩,⟨some 36,none,.mv (.tmp 1)⟩,⟨some 37,none,.iaddr 3 none (.tmp 35) (.tmp 36)⟩,⟨some 38,none,.faddr 2 (.tmp 37)⟩,⟨some 39,none,.load 1 false (.tmp 38)⟩,⟨some 40,none,.callf (.func 47) [(.tmp 34),(.tmp 39)]⟩,⟨some 41,none,.mkrow 41 3 [(.tmp 40)]⟩,⟨some 42,none,.append 41 3 56 (.tmp 29) (.tmp 41)⟩,⟨some 5,none,.mv (.tmp 42)⟩]))) (.reg [⟨some 43,none,.bin .add (.tmp 25) (.const (.int .i64 (1)))⟩,⟨some 25,none,.mv (.tmp 43)⟩]))))
abbrev c28:CC:=(.seq (.reg [⟨some 2,none,.box 25 (.tmp 0)⟩,⟨some 4,none,.mv (.const (.slice none 0 0))⟩]) (.seq (.seq (.reg [⟨some 8,none,.load 3 true (.tmp 2)⟩,⟨some 9,none,.callf (.func 11) [(.tmp 8)]⟩,⟨some 10,none,.un .not (.tmp 9)⟩,⟨some 11,none,.mv (.tmp 10)⟩,⟨some 12,(some (11,false)),.mv (.tmp 1)⟩,⟨some 13,(some (11,false)),.bin .lss (.tmp 12) (.const (.int .i64 (0)))⟩,⟨some 14,none,.pick (.tmp 11) (.const (.bool true)) (.tmp 13)⟩,⟨some 15,none,.mv (.tmp 14)⟩,⟨some 16,(some (15,false)),.mv (.tmp 1)⟩,⟨some 17,(some (15,false)),.faddr 2 (.tmp 2)⟩,⟨some 18,(some (15,false)),.load 1 false (.tmp 17)⟩,⟨some 19,(some (15,false)),.len false (.tmp 18)⟩,⟨some 20,(some (15,false)),.bin .geq (.tmp 16) (.tmp 19)⟩,⟨some 21,none,.pick (.tmp 15) (.const (.bool true)) (.tmp 20)⟩]) (.cond (.tmp 21) (.seq (.reg [⟨some 4,none,.mv (.const (.slice none 0 0))⟩]) .ret) .skip)) (.seq (.reg [⟨some 5,none,.mv (.const (.slice none 0 0))⟩]) (.seq (.seq (.reg [⟨some 22,none,.faddr 0 (.tmp 2)⟩,⟨some 23,none,.load 1 false (.tmp 22)⟩,⟨some 24,none,.len false (.tmp 23)⟩,⟨some 25,none,.mv (.const (.int .i64 (0)))⟩]) (.block 0 (.loop c28_b1))) c28_k1))))
theorem cc28:ccode Try.prog [] (Try.f28.body.getD .skip) = some c28:=by kernel_rfl
theorem body28:Try.f28.body = some (Try.f28.body.getD .skip):=rfl
theorem col_no (p:PB) (k:Int) (h:rightB p = false \/ k < 0 \/ (osl p.C).length <= k) (hk1 : -9223372036854775808 <= k) (hk2:k <= 9223372036854775807):PureC Try.prog 28 [aP p,aI k] (.ret (aV none)):=by
 have hr:=sright_C p
 cases c1:rightB p with
 | false =>
  rw [c1] at hr
  refine pureC_of (rs:=[(RV.tmp 4)]) Try.func28 (fun a w=>Try.call28 a w) body28 cc28 (by kernel_rfl) ?_
  rw [Try.ntmps28]
  simp only [frs,nA,nS]
  repeat (first | (with_reducible first | refine Way.imp ?_ | refine blk_o rfl ?_) | ((with_reducible refine WayR.imp (fun K hK=>?_));simp (disch:=first | omega | (simp only [dls];omega)) only [std,reduceIte,reduceCtorEq,iT,nA,nS,nM,iA,iS,iM,iN,fU];subst hK) | refine zcA (hr) rfl rfl rfl ?_)
  exact ⟨_,rfl,rfl⟩
 | true =>
  rw [c1] at hr
  replace h:=h.resolve_left (by rw [c1];simp)
  by_cases h2:k < 0
  ·refine pureC_of (rs:=[(RV.tmp 4)]) Try.func28 (fun a w=>Try.call28 a w) body28 cc28 (by kernel_rfl) ?_
   rw [Try.ntmps28]
   simp only [frs,nA,nS]
   repeat (first | (with_reducible first | refine Way.imp ?_ | refine blk_o rfl ?_) | ((with_reducible refine WayR.imp (fun K hK=>?_));simp (disch:=first | omega | (simp only [dls];omega)) only [std,reduceIte,reduceCtorEq,iT,nA,nS,nM,iA,iS,iM,iN,fU];subst hK) | refine zcA (hr) rfl rfl rfl ?_)
   exact ⟨_,rfl,rfl⟩
  ·have h3:=h.resolve_left h2
   refine pureC_of (rs:=[(RV.tmp 4)]) Try.func28 (fun a w=>Try.call28 a w) body28 cc28 (by kernel_rfl) ?_
   rw [Try.ntmps28]
   simp only [frs,nA,nS]
   repeat (first | (with_reducible first | refine Way.imp ?_ | refine blk_o rfl ?_) | ((with_reducible refine WayR.imp (fun K hK=>?_));simp (disch:=first | omega | (simp only [dls];omega)) only [std,reduceIte,reduceCtorEq,iT,nA,nS,nM,iA,iS,iM,iN,fU];subst hK) | refine zcA (hr) rfl rfl rfl ?_)
   exact ⟨_,rfl,rfl⟩
theorem col_yes (p:PB) (k n L:Nat) (hf:FitsM p.A n L) (hL:L <= 1000000) (hr0:rightB p = true) (hk:k < (osl p.C).length):PureC Try.prog 28 [aP p,aI k] (.ret (aV (rowO ((colTo p k (osl p.A).length).map rawQ)))):=by
 obtain ⟨l1,l2,l3,l4⟩:=right_len hr0
 have hr:=sright_C p
 rw [hr0] at hr
 refine PureC.fresh_rowO (f:=28) (ty:=41) (g:=fR) ?_
 refine pureC_of (rs:=[(RV.tmp 4)]) Try.func28 (fun a w=>Try.call28 a w) body28 cc28 (by kernel_rfl) ?_
 rw [Try.ntmps28]
 simp only [frs,nA,nS]
 repeat (first | (with_reducible first | refine Way.imp ?_ | refine blk_o rfl ?_) | ((with_reducible refine WayR.imp (fun K hK=>?_));simp (disch:=first | omega | (simp only [dls];omega)) only [std,reduceIte,reduceCtorEq,iT,nA,nS,nM,iA,iS,iM,iN,fU];subst hK) | refine zcA (hr) rfl rfl rfl ?_)
 refine AWp.fgt ?_ (Fgt.openNil (i:=5) rfl 41 3)
 simp only [List.set_cons_succ,List.set_cons_zero,List.length_nil,List.length_cons,List.nil_append,List.cons_append,nA]
 refine awp_loop (fun (zz:Nat × (List RR) × Nat × Bool)=>⟨(.junk :: aI k :: .junk :: .junk :: .junk :: .one (.own 1 zz.2.2.1) :: .junk :: .junk :: .junk :: .junk :: .junk :: .junk :: .junk :: .junk :: .junk :: .junk :: .junk :: .junk :: .junk :: .junk :: .junk :: .junk :: .junk :: aM p.A :: aI (osl p.A).length :: aI zz.1 :: .junk :: .junk :: .junk :: .junk :: .junk :: .junk :: .junk :: .junk :: .junk :: .junk :: .junk :: .junk :: .junk :: .junk :: .junk :: .junk :: .junk :: .junk :: .junk :: []),[⟨0,25,3,[[.c (encSl 1 fM p.A),.c (vr p.B),.c (vr p.C)]],true,true⟩,⟨zz.2.2.1,41,3,encB fR zz.2.1,true,zz.2.2.2⟩]⟩) (fun (zz:Nat × (List RR) × Nat × Bool)=>zz.1 <= (osl p.A).length /\ zz.2.1 = (colTo p k zz.1).map rawQ /\ zz.2.2.2 = !zz.2.1.isEmpty) (fun (zz:Nat × (List RR) × Nat × Bool)=>(osl p.A).length - zz.1) (0,[],0,false) ?hI1 (Fgt.head (Nat.zero_le 2) [false,true,false,false,false,true,false,false,false,false,false,false,false,false,false,false,false,false,false,false,false,false,false,true,true,true] ?hT1 ?hH1) ?hB1
 case hT1=>first | (simp (disch:=omega) only [hds,liveT,cleanAV,cleanCell,clean1,cleanBlk,reduceIte,iS,iA,iN,encB_nil];done) | rfl
 case hH1=>first | (simp (disch:=omega) only [hds,liveT,cleanAV,cleanCell,clean1,cleanBlk,reduceIte,iS,iA,iN,encB_nil];done) | rfl
 ·dsimp only;exact ⟨Nat.zero_le _,rfl,rfl⟩
 rintro ⟨i,out,v,nn⟩ ⟨hi,ho,hnn⟩
 dsimp only at hi ho hnn
 by_cases him:i = (osl p.A).length
 ·repeat (first | (with_reducible first | refine Way.imp ?_ | refine blk_o rfl ?_) | ((with_reducible refine WayR.imp (fun K hK=>?_));simp (disch:=first | omega | (simp only [dls];omega)) only [std,reduceIte,reduceCtorEq,iT,nA,nS,nM,iA,iS,iM,iN,fU];subst hK))
  refine ⟨_,rfl,?_⟩
  rw [him] at ho
  rw [<- ho,<- hnn]
  exact Ends.fresh_enc rfl
 ·have hlt:i < (osl p.A).length:=by omega
  have hrl:=l4 i hlt
  have hkl:k < (osl (osl p.A)[i]).length:=by omega
  have hmk:=make_C (osl (osl p.A)[i])[k] L ((hf.2 _ (List.getElem_mem hlt)).2 _ (List.getElem_mem hkl)) hL
  have hol:out.length = i:=by rw [ho,List.length_map,colTo_len]
  have hq:qAt (mAt p.A i) k = (osl (osl p.A)[i])[k].val:=by rw [mAt_in hlt];unfold qAt;rw [rAt_in hkl]
  repeat (first | (with_reducible first | refine Way.imp ?_ | refine blk_o rfl ?_) | ((with_reducible refine WayR.imp (fun K hK=>?_));simp (disch:=first | omega | (simp only [dls];omega)) only [std,reduceIte,reduceCtorEq,iT,nA,nS,nM,iA,iS,iM,iN,fU,fM,fR];subst hK) | refine zcA (hmk) rfl rfl rfl ?_)
  refine ⟨(i + 1,out ++ [rawQ (osl (osl p.A)[i])[k].val],v + 1,true),?hI2,?hM2,Fgt.head (Nat.zero_le 2) [false,true,false,false,false,true,false,false,false,false,false,false,false,false,false,false,false,false,false,false,false,false,false,true,true,true] ?hT2 ?hH2⟩
  case hT2=>first | (simp (disch:=omega) only [hds,liveT,cleanAV,cleanCell,clean1,cleanBlk,reduceIte,iS,iA,iN,encB_snoc_row,List.isEmpty_cons,Bool.or_true,Bool.not_false];done) | rfl
  case hH2=>first | (simp (disch:=omega) only [hds,liveT,cleanAV,cleanCell,clean1,cleanBlk,reduceIte,iS,iA,iN,encB_snoc_row,List.isEmpty_cons,Bool.or_true,Bool.not_false];done) | rfl
  ·dsimp only
   exact ⟨by omega,by rw [ho,colTo_succ,List.map_append,hq];rfl,by simp⟩
  ·dsimp only;omega
def isI (l:List Int) (k:Int) (i:Nat):Bool:=decide (k = l.getD i 0)
theorem anyI_isI (l:List Int) (k:Int):anyI (isI l k) l.length = l.contains k:=by
 rw [Bool.eq_iff_iff,List.contains_iff_mem]
 unfold anyI
 rw [List.any_eq_true]
 constructor
 ·rintro ⟨i,hi,h⟩
  have hi':=List.mem_range.1 hi
  unfold isI at h
  rw [decide_eq_true_eq,List.getD_eq_getElem?_getD,List.getElem?_eq_getElem hi'] at h
  rw [h];exact List.getElem_mem hi'
 ·intro h
  obtain ⟨i,hi,e⟩:=List.mem_iff_getElem.1 h
  refine ⟨i,List.mem_range.2 hi,?_⟩
  unfold isI
  rw [decide_eq_true_eq,List.getD_eq_getElem?_getD,List.getElem?_eq_getElem hi]
  exact e.symm
abbrev c87_k1:CC:=(.seq (.reg [⟨some 4,none,.mv (.const (.int .i64 (-1)))⟩]) .ret)
abbrev c87_b1:CC:=(.seq (.reg [⟨some 9,none,.bin .lss (.tmp 8) (.tmp 7)⟩]) (.seq (.cond (.tmp 9) .skip (.exit 0)) (.seq (.block 1 (.seq (.reg [⟨some 10,none,.mv (.tmp 8)⟩,⟨some 5,none,.mv (.tmp 10)⟩]) (.seq (.reg [⟨some 11,none,.mv (.tmp 1)⟩,⟨some 12,none,.mv (.tmp 0)⟩,⟨some 13,none,.mv (.tmp 5)⟩,⟨some 14,none,.iaddr 1 none (.tmp 12) (.tmp 13)⟩,⟨some 15,none,.load 1 false (.tmp 14)⟩,⟨some 16,none,.bin .eql (.tmp 11) (.tmp 15)⟩]) (.cond (.tmp 16) (.seq (.reg [⟨some 17,none,.mv (.tmp 5)⟩,⟨some 4,none,.mv (.tmp 17)⟩]) .ret) .skip)))) (.reg [⟨some 18,none,.bin .add (.tmp 8) (.const (.int .i64 (1)))⟩,⟨some 8,none,.mv (.tmp 18)⟩]))))
abbrev c87:CC:=(.seq (.reg [⟨some 4,none,.mv (.const (.int .i64 (0)))⟩]) (.seq (.seq (.reg [⟨some 6,none,.mv (.tmp 0)⟩,⟨some 7,none,.len false (.tmp 6)⟩,⟨some 8,none,.mv (.const (.int .i64 (0)))⟩]) (.block 0 (.loop c87_b1))) c87_k1))
theorem cc87:ccode Try.prog [] (Try.f87.body.getD .skip) = some c87:=by kernel_rfl
theorem body87:Try.f87.body = some (Try.f87.body.getD .skip):=rfl
theorem index_I (l:Option (List Int)) (k:Int) (hl:(osl l).length <= 1000000):PureC Try.prog 87 [aIs l,aI k] (.ret (aI (fstI (isI (osl l) k) (osl l).length))):=by
 refine pureC_of (rs:=[(RV.tmp 4)]) Try.func87 (fun a w=>Try.call87 a w) body87 cc87 (by kernel_rfl) ?_
 rw [Try.ntmps87]
 simp only [frs,nA,nS]
 repeat (first | (with_reducible first | refine Way.imp ?_ | refine blk_o rfl ?_) | ((with_reducible refine WayR.imp (fun K hK=>?_));simp (disch:=first | omega | (simp only [dls];omega)) only [std,reduceIte,reduceCtorEq,iT,nA,nS,nM,iA,iS,iM,iN,fU];subst hK))
 refine awp_loop (fun (zz:Nat)=>⟨(aIs l :: aI k :: .junk :: .junk :: aI 0 :: .junk :: aIs l :: aI (osl l).length :: aI zz :: .junk :: .junk :: .junk :: .junk :: .junk :: .junk :: .junk :: .junk :: .junk :: .junk :: []),[]⟩) (fun (zz:Nat)=>zz <= (osl l).length /\ anyI (isI (osl l) k) zz = false) (fun (zz:Nat)=>(osl l).length - zz) (0) ?hI1 (Fgt.head (Nat.le_refl _) [true,true,false,false,true,false,true,true,true] ?hT1 ?hH1) ?hB1
 case hT1=>first | (simp (disch:=omega) only [hds,liveT,cleanAV,cleanCell,clean1,cleanBlk_mk,reduceIte,iS,iA,iN];done) | rfl
 case hH1=>first | (simp (disch:=omega) only [hds,liveT,cleanAV,cleanCell,clean1,cleanBlk_mk,reduceIte,iS,iA,iN];done) | rfl
 ·exact ⟨Nat.zero_le _,rfl⟩
 rintro i ⟨hi,hs⟩
 by_cases him:i = (osl l).length
 ·repeat (first | (with_reducible first | refine Way.imp ?_ | refine blk_o rfl ?_) | ((with_reducible refine WayR.imp (fun K hK=>?_));simp (disch:=first | omega | (simp only [dls];omega)) only [std,reduceIte,reduceCtorEq,iT,nA,nS,nM,iA,iS,iM,iN,fU];subst hK))
  rw [fstI_none (by rw [<- him];exact hs)]
  exact ⟨_,rfl,rfl⟩
 ·have hlt:i < (osl l).length:=by omega
  have hb:isI (osl l) k i = decide (k = (osl l)[i]):=by unfold isI;rw [List.getD_eq_getElem?_getD,List.getElem?_eq_getElem hlt];rfl
  by_cases he:k = (osl l)[i]
  ·rw [decide_eq_true he] at hb
   repeat (first | (with_reducible first | refine Way.imp ?_ | refine blk_o rfl ?_) | ((with_reducible refine WayR.imp (fun K hK=>?_));simp (disch:=first | omega | (simp only [dls];omega)) only [std,reduceIte,reduceCtorEq,iT,nA,nS,nM,iA,iS,iM,iN,fU,fI];subst hK))
   rw [fstI_some hlt hs hb]
   exact ⟨_,rfl,rfl⟩
  ·rw [decide_eq_false he] at hb
   repeat (first | (with_reducible first | refine Way.imp ?_ | refine blk_o rfl ?_) | ((with_reducible refine WayR.imp (fun K hK=>?_));simp (disch:=first | omega | (simp only [dls];omega)) only [std,reduceIte,reduceCtorEq,iT,nA,nS,nM,iA,iS,iM,iN,fU,fI];subst hK))
   refine ⟨(i + 1),?hI2,?hM2,Fgt.head (Nat.le_refl _) [true,true,false,false,true,false,true,true,true] ?hT2 ?hH2⟩
   case hT2=>first | (simp (disch:=omega) only [hds,liveT,cleanAV,cleanCell,clean1,cleanBlk_mk,reduceIte,iS,iA,iN];done) | rfl
   case hH2=>first | (simp (disch:=omega) only [hds,liveT,cleanAV,cleanCell,clean1,cleanBlk_mk,reduceIte,iS,iA,iN];done) | rfl
   ·exact ⟨Nat.succ_le_of_lt hlt,by rw [anyI_succ,hs,hb];rfl⟩
   ·show (osl l).length - (i + 1) < (osl l).length - i;omega
abbrev c63:CC:=(.seq (.reg [⟨some 4,none,.mv (.const (.bool false))⟩]) (.seq (.reg [⟨some 5,none,.mv (.tmp 0)⟩,⟨some 6,none,.mv (.tmp 1)⟩,⟨some 7,none,.callf (.func 87) [(.tmp 5),(.tmp 6)]⟩,⟨some 8,none,.bin .geq (.tmp 7) (.const (.int .i64 (0)))⟩,⟨some 4,none,.mv (.tmp 8)⟩]) .ret))
theorem cc63:ccode Try.prog [] (Try.f63.body.getD .skip) = some c63:=by kernel_rfl
theorem body63:Try.f63.body = some (Try.f63.body.getD .skip):=rfl
theorem contains_I (l:Option (List Int)) (k:Int) (hl:(osl l).length <= 1000000):PureC Try.prog 63 [aIs l,aI k] (.ret (aB ((osl l).contains k))):=by
 have hx:=index_I l k hl
 rw [<- anyI_isI,<- fstI_any]
 generalize fstI (isI (osl l) k) (osl l).length = z at *
 refine pureC_of (rs:=[(RV.tmp 4)]) Try.func63 (fun a w=>Try.call63 a w) body63 cc63 (by kernel_rfl) ?_
 rw [Try.ntmps63]
 simp only [frs,nA,nS]
 repeat (first | (with_reducible first | refine Way.imp ?_ | refine blk_o rfl ?_) | ((with_reducible refine WayR.imp (fun K hK=>?_));simp (disch:=first | omega | (simp only [dls];omega)) only [std,reduceIte,reduceCtorEq,iT,nA,nS,nM,iA,iS,iM,iN,fU];subst hK) | refine zcA (hx) rfl rfl rfl ?_)
 exact ⟨_,rfl,rfl⟩
abbrev c42:CC:=(.seq (.reg [⟨some 2,none,.mv (.const (.slice none 0 0))⟩]) (.seq (.seq (.reg [⟨some 3,none,.mv (.tmp 0)⟩,⟨some 4,none,.isnil false false (.tmp 3)⟩]) (.cond (.tmp 4) (.seq (.reg [⟨some 2,none,.mv (.const (.slice none 0 0))⟩]) .ret) .skip)) (.seq (.reg [⟨some 5,none,.mkrow 3 1 []⟩,⟨some 6,none,.mv (.tmp 0)⟩,⟨some 7,none,.append 3 1 8 (.tmp 5) (.tmp 6)⟩,⟨some 2,none,.mv (.tmp 7)⟩]) .ret)))
theorem cc42:ccode Try.prog [] (Try.f42.body.getD .skip) = some c42:=by kernel_rfl
theorem body42:Try.f42.body = some (Try.f42.body.getD .skip):=rfl
theorem cloneI_nil:PureC Try.prog 42 [aIs none] (.ret (aIs none)):=by
 refine pureC_of (rs:=[(RV.tmp 2)]) Try.func42 (fun a w=>Try.call42 a w) body42 cc42 (by kernel_rfl) ?_
 rw [Try.ntmps42]
 simp only [frs,nA,nS]
 repeat (first | (with_reducible first | refine Way.imp ?_ | refine blk_o rfl ?_) | ((with_reducible refine WayR.imp (fun K hK=>?_));simp (disch:=first | omega | (simp only [dls];omega)) only [std,reduceIte,reduceCtorEq,iT,nA,nS,nM,iA,iS,iM,iN,fU,Option.isNone];subst hK))
 exact ⟨_,rfl,rfl⟩
theorem cloneI_C (l:List Int) (hl:l.length <= 1000000):PureC Try.prog 42 [aIs (some l)] (.fresh 3 1 (l.map fI) true):=by
 refine pureC_of (rs:=[(RV.tmp 2)]) Try.func42 (fun a w=>Try.call42 a w) body42 cc42 (by kernel_rfl) ?_
 rw [Try.ntmps42]
 simp only [frs,nA,nS]
 repeat (first | (with_reducible first | refine Way.imp ?_ | refine blk_o rfl ?_) | ((with_reducible refine WayR.imp (fun K hK=>?_));simp (disch:=first | omega | (simp only [dls];omega)) only [std,reduceIte,reduceCtorEq,iT,nA,nS,nM,iA,iS,iM,iN,fU,Option.isNone];subst hK))
 exact ⟨_,rfl,Ends.fresh_enc rfl⟩
theorem cloneI_R (l:Option (List Int)) (hl:(osl l).length <= 1000000):PureC Try.prog 42 [aIs l] (.ret (aIs l)):=by
 cases l with
 | none=>exact cloneI_nil
 | some l=>exact (cloneI_C l hl).fresh_ret
theorem contains_N (bs:List Nat) (k:Nat):(intsN bs).contains (k:Int) = bs.contains k:=by
 rw [Bool.eq_iff_iff,List.contains_iff_mem,List.contains_iff_mem]
 unfold intsN
 rw [List.mem_map]
 exact ⟨fun ⟨a,h,e⟩=>by have:a = k:=by exact_mod_cast e
                        rw [<- this];exact h,fun h=>⟨k,h,rfl⟩⟩
def clrB (S:SD) (bs:List Nat) (i k:Nat):Bool:=!bs.contains k && decide ((dL S bs k).getD i 0 ≠ 0)
theorem clearAt_is (S:SD) (bs:List Nat) (i:Nat):clearAt S bs i = if bs.getD i 0 < S.n then bs else match (List.range S.n).find? (clrB S bs i) with
 | none=>bs
 | some k=>bs.set i k:=rfl
theorem sgn_nz (q:Rat):sgn (rawQ q).top = 0 ↔ q = 0:=by rw [sgn_zero_iff,top_zero,rawQ_val]
abbrev c43_k1:CC:=(.reg [⟨some 63,none,.bin .add (.tmp 9) (.const (.int .i64 (1)))⟩,⟨some 9,none,.mv (.tmp 63)⟩])
abbrev c43_b1:CC:=(.seq (.reg [⟨some 30,none,.bin .lss (.tmp 29) (.tmp 28)⟩]) (.seq (.cond (.tmp 30) .skip (.exit 2)) (.seq (.block 3 (.seq (.reg [⟨some 31,none,.mv (.tmp 29)⟩,⟨some 3,none,.mv (.tmp 31)⟩]) (.seq (.reg [⟨some 32,none,.mv (.tmp 0)⟩,⟨some 33,none,.faddr 0 (.tmp 32)⟩,⟨some 34,none,.faddr 5 (.tmp 33)⟩,⟨some 35,none,.load 1 false (.tmp 34)⟩,⟨some 36,none,.mv (.tmp 3)⟩,⟨some 37,none,.callf (.func 63) [(.tmp 35),(.tmp 36)]⟩,⟨some 38,none,.un .not (.tmp 37)⟩,⟨some 39,none,.mv (.tmp 38)⟩,⟨some 40,(some (39,true)),.mv (.tmp 0)⟩,⟨some 41,(some (39,true)),.mv (.tmp 0)⟩,⟨some 42,(some (39,true)),.faddr 0 (.tmp 41)⟩,⟨some 43,(some (39,true)),.faddr 2 (.tmp 42)⟩,⟨some 44,(some (39,true)),.load 1 false (.tmp 43)⟩,⟨some 45,(some (39,true)),.mv (.tmp 3)⟩,⟨some 46,(some (39,true)),.iaddr 1 none (.tmp 44) (.tmp 45)⟩,⟨some 47,(some (39,true)),.load 1 false (.tmp 46)⟩,⟨some 48,(some (39,true)),.callf (.func 73) [(.tmp 40),(.tmp 47)]⟩,⟨some 49,(some (39,true)),.mv (.tmp 2)⟩,⟨some 50,(some (39,true)),.iaddr 3 none (.tmp 48) (.tmp 49)⟩,⟨some 51,(some (39,true)),.load 3 true (.tmp 50)⟩,⟨some 52,(some (39,true)),.callf (.func 23) [(.tmp 51)]⟩,⟨some 53,(some (39,true)),.bin .neq (.tmp 52) (.const (.int .i64 (0)))⟩,⟨some 54,none,.pick (.tmp 39) (.tmp 53) (.const (.bool false))⟩]) (.cond (.tmp 54) (.seq (.reg [⟨some 55,none,.mv (.tmp 0)⟩,⟨some 56,none,.faddr 0 (.tmp 55)⟩,⟨some 57,none,.faddr 5 (.tmp 56)⟩,⟨some 58,none,.load 1 false (.tmp 57)⟩,⟨some 59,none,.mv (.tmp 2)⟩,⟨some 60,none,.mv (.tmp 3)⟩,⟨some 61,none,.iaddr 1 none (.tmp 58) (.tmp 59)⟩,⟨none,none,.store 1 (.tmp 61) (.tmp 60)⟩]) (.exit 1)) .skip)))) (.reg [⟨some 62,none,.bin .add (.tmp 29) (.const (.int .i64 (1)))⟩,⟨some 29,none,.mv (.tmp 62)⟩]))))
abbrev c43_b2:CC:=(.seq (.reg [⟨some 10,none,.bin .lss (.tmp 9) (.tmp 8)⟩]) (.seq (.cond (.tmp 10) .skip (.exit 0)) (.seq (.block 1 (.seq (.reg [⟨some 11,none,.mv (.tmp 9)⟩,⟨some 2,none,.mv (.tmp 11)⟩]) (.seq (.seq (.reg [⟨some 12,none,.mv (.tmp 0)⟩,⟨some 13,none,.faddr 0 (.tmp 12)⟩,⟨some 14,none,.faddr 5 (.tmp 13)⟩,⟨some 15,none,.load 1 false (.tmp 14)⟩,⟨some 16,none,.mv (.tmp 2)⟩,⟨some 17,none,.iaddr 1 none (.tmp 15) (.tmp 16)⟩,⟨some 18,none,.load 1 false (.tmp 17)⟩,⟨some 19,none,.mv (.tmp 0)⟩,⟨some 20,none,.faddr 0 (.tmp 19)⟩,⟨some 21,none,.faddr 0 (.tmp 20)⟩,⟨some 22,none,.load 1 false (.tmp 21)⟩,⟨some 23,none,.bin .lss (.tmp 18) (.tmp 22)⟩]) (.cond (.tmp 23) (.exit 1) .skip)) (.seq (.reg [⟨some 24,none,.mv (.tmp 0)⟩,⟨some 25,none,.faddr 0 (.tmp 24)⟩,⟨some 26,none,.faddr 2 (.tmp 25)⟩,⟨some 27,none,.load 1 false (.tmp 26)⟩,⟨some 28,none,.len false (.tmp 27)⟩,⟨some 29,none,.mv (.const (.int .i64 (0)))⟩]) (.block 2 (.loop c43_b1)))))) c43_k1)))
abbrev c43:CC:=(.scope (.seq .skip (.seq (.reg [⟨some 4,none,.mv (.tmp 0)⟩,⟨some 5,none,.faddr 0 (.tmp 4)⟩,⟨some 6,none,.faddr 5 (.tmp 5)⟩,⟨some 7,none,.load 1 false (.tmp 6)⟩,⟨some 8,none,.len false (.tmp 7)⟩,⟨some 9,none,.mv (.const (.int .i64 (0)))⟩]) (.block 0 (.loop c43_b2)))))
theorem cc43:ccode Try.prog [1000073] (Try.f43.body.getD .skip) = some c43:=by kernel_rfl
theorem body43:Try.f43.body = some (Try.f43.body.getD .skip):=rfl
theorem clear_O (S:SD) (L:Nat) (hS:SFits S L) (bs:List Nat) (hb:COk S bs) (hz:Zer S bs) (v vb:Nat) (nb:Bool) (hnb:nb = !(intsN bs).isEmpty) (mn:CV) (st bu:Int) (wk:CV) (P0 P1 P2 R:Blk) (h0:Pad P0) (h1:Pad P1) (h2:Pad P2) (hR:Pad R) :
  OpenC Try.prog 43 [aT v] [P0,P1,P2,tB S v mn (.own 4 vb) st bu wk,⟨vb,3,1,encB fI (intsN bs),true,nb⟩,R] (.tup [])
   [P0,P1,P2,tB S v mn (.own 4 vb) st bu wk,⟨vb,3,1,encB fI (intsN (clearTo S bs S.m)),true,nb⟩,R]:=by
 have hm:=hS.mb
 have hn:=hS.nb
 have l1:=hS.l1
 have l2:=hS.l2
 have l3:=hS.l3
 have hcols:(osl (colsM S)).length = S.n:=by rw [osl_colsM,List.length_map];exact hS.cl
 have hspec:=clear_spec hS.toWf hb hz
 have hlen:∀ i,i <= S.m -> (intsN (clearTo S bs i)).length = S.m:=fun i hi=>by rw [intsN_length];exact (hspec i hi).1.len
 have hnn:∀ i,i <= S.m -> nb = !(intsN (clearTo S bs i)).isEmpty:=fun i hi=>by
  have e1:=hlen i hi
  have e2:=hlen 0 (Nat.zero_le _)
  rw [hnb]
  show (!(intsN (clearTo S bs 0)).isEmpty) = _
  generalize intsN (clearTo S bs i) = a at *
  generalize intsN (clearTo S bs 0) = b at *
  cases a <;> cases b <;> first | rfl | (simp at e1 e2;omega)
 have q0:=h0
 have q1:=h1
 have q2:=h2
 have qR:=hR
 unfold Pad at q0 q1 q2 qR
 unfold tB
 have hl0:(intsN bs).length = S.m:=hlen 0 (Nat.zero_le _)
 refine openC_of (rs:=[]) Try.func43 (fun a w=>Try.call43 a w) body43 cc43 (by kernel_rfl) ?_
 rw [Try.ntmps43]
 simp only [frs,nA,nS]
 repeat (first | (with_reducible first | refine Way.imp ?_ | refine blk_o rfl ?_) | ((with_reducible refine WayR.imp (fun K hK=>?_));simp (disch:=first | omega | (simp only [dls];omega)) only [std,reduceIte,reduceCtorEq,iT,nA,nS,nM,iA,iS,iM,iN,fU];subst hK))
 refine awp_loop (fun (zz:Nat)=>⟨(aT v :: .junk :: .junk :: .junk :: .junk :: .junk :: .junk :: .junk :: aI S.m :: aI zz :: .junk :: .junk :: .junk :: .junk :: .junk :: .junk :: .junk :: .junk :: .junk :: .junk :: .junk :: .junk :: .junk :: .junk :: .junk :: .junk :: .junk :: .junk :: .junk :: .junk :: .junk :: .junk :: .junk :: .junk :: .junk :: .junk :: .junk :: .junk :: .junk :: .junk :: .junk :: .junk :: .junk :: .junk :: .junk :: .junk :: .junk :: .junk :: .junk :: .junk :: .junk :: .junk :: .junk :: .junk :: .junk :: .junk :: .junk :: .junk :: .junk :: .junk :: .junk :: .junk :: .junk :: .junk :: []),[P0,P1,P2,⟨v,77,9,[[.c (.val (.int .i64 (S.n:Int))),.c (.val (.int .i64 (S.m:Int))),.c (encSl 1 fM (colsM S)),.c (vr (rowV S.b)),.c mn,.own 4 vb,.c (.val (.int .i64 st)),.c (.val (.int .i64 bu)),.c wk]],true,true⟩,⟨vb,3,1,encB fI (intsN (clearTo S bs zz)),true,nb⟩,R]⟩) (fun (zz:Nat)=>zz <= S.m) (fun (zz:Nat)=>S.m - zz) (0) ?hI3 (Fgt.head (show _ <= 6 from Nat.le_of_ble_eq_true rfl) [true,false,false,false,false,false,false,false,true,true] ?hT3 ?hH3) ?hB3
 case hT3=>first | (simp (disch:=omega) only [hds,liveT,cleanAV,cleanCell,clean1,cleanBlk_mk,reduceIte,iS,iA,iN,q0,q1,q2,qR,hl0,clearTo];done) | rfl
 case hH3=>first | (simp (disch:=omega) only [hds,liveT,cleanAV,cleanCell,clean1,cleanBlk_mk,reduceIte,iS,iA,iN,q0,q1,q2,qR,hl0,clearTo];done) | rfl
 ·exact Nat.zero_le _
 rintro i hi
 obtain ⟨hcs,hzs,_⟩:=hspec i hi
 by_cases him:i = S.m
 ·rw [him]
  repeat (first | (with_reducible first | refine Way.imp ?_ | refine blk_o rfl ?_) | ((with_reducible refine WayR.imp (fun K hK=>?_));simp (disch:=first | omega | (simp only [dls];omega)) only [std,reduceIte,reduceCtorEq,iT,nA,nS,nM,iA,iS,iM,iN,fU];subst hK))
  exact ⟨rfl,rfl⟩
 have hlt:i < S.m:=by omega
 have hB:=hcs.toBOk
 have hbl:=bsl_of hB
 have hlcs:=hlen i hi
 have hcl2:(clearTo S bs i).length = S.m:=hB.len
 have hi2:i < (intsN (clearTo S bs i)).length:=by omega
 have hg:=intsN_get hi2
 have hnb':=hnn i hi
 have enx:clearTo S bs (i + 1) = clearAt S (clearTo S bs i) i:=rfl
 rw [clearAt_is] at enx
 generalize clearTo S bs i = cs at *
 by_cases hlo:cs.getD i 0 < S.n
 ·rw [if_pos hlo] at enx
  repeat (first | (with_reducible first | refine Way.imp ?_ | refine blk_o rfl ?_) | ((with_reducible refine WayR.imp (fun K hK=>?_));simp (disch:=first | omega | (simp only [dls];omega)) only [std,reduceIte,reduceCtorEq,iT,nA,nS,nM,iA,iS,iM,iN,fU,fI,hg];subst hK))
  refine ⟨(i + 1),?hI4,?hM4,Fgt.head (show _ <= 6 from Nat.le_of_ble_eq_true rfl) [true,false,false,false,false,false,false,false,true,true] ?hT4 ?hH4⟩
  case hT4=>first | (simp (disch:=omega) only [hds,liveT,cleanAV,cleanCell,clean1,cleanBlk_mk,reduceIte,iS,iA,iN,q0,q1,q2,qR,enx];done) | rfl
  case hH4=>first | (simp (disch:=omega) only [hds,liveT,cleanAV,cleanCell,clean1,cleanBlk_mk,reduceIte,iS,iA,iN,q0,q1,q2,qR,enx];done) | rfl
  ·show i + 1 <= S.m;omega
  ·show S.m - (i + 1) < S.m - i;omega
 ·rw [if_neg hlo] at enx
  repeat (first | (with_reducible first | refine Way.imp ?_ | refine blk_o rfl ?_) | ((with_reducible refine WayR.imp (fun K hK=>?_));simp (disch:=first | omega | (simp only [dls];omega)) only [std,reduceIte,reduceCtorEq,iT,nA,nS,nM,iA,iS,iM,iN,fU,fI,hg];subst hK))
  refine awp_loop (fun (zz:Nat)=>⟨(aT v :: .junk :: aI i :: .junk :: .junk :: .junk :: .junk :: .junk :: aI S.m :: aI i :: .junk :: .junk :: .junk :: .junk :: .junk :: .junk :: .junk :: .junk :: .junk :: .junk :: .junk :: .junk :: .junk :: .junk :: .junk :: .junk :: .junk :: .junk :: aI S.n :: aI zz :: .junk :: .junk :: .junk :: .junk :: .junk :: .junk :: .junk :: .junk :: .junk :: .junk :: .junk :: .junk :: .junk :: .junk :: .junk :: .junk :: .junk :: .junk :: .junk :: .junk :: .junk :: .junk :: .junk :: .junk :: .junk :: .junk :: .junk :: .junk :: .junk :: .junk :: .junk :: .junk :: .junk :: .junk :: []),[P0,P1,P2,⟨v,77,9,[[.c (.val (.int .i64 (S.n:Int))),.c (.val (.int .i64 (S.m:Int))),.c (encSl 1 fM (colsM S)),.c (vr (rowV S.b)),.c mn,.own 4 vb,.c (.val (.int .i64 st)),.c (.val (.int .i64 bu)),.c wk]],true,true⟩,⟨vb,3,1,encB fI (intsN cs),true,nb⟩,R]⟩) (fun (zz:Nat)=>zz <= S.n /\ ∀ j,j < zz -> clrB S cs i j = false) (fun (zz:Nat)=>S.n - zz) (0) ?hI5 (Fgt.head (show _ <= 6 from Nat.le_of_ble_eq_true rfl) [true,false,true,false,false,false,false,false,true,true,false,false,false,false,false,false,false,false,false,false,false,false,false,false,false,false,false,false,true,true] ?hT5 ?hH5) ?hB5
  case hT5=>first | (simp (disch:=omega) only [hds,liveT,cleanAV,cleanCell,clean1,cleanBlk_mk,reduceIte,iS,iA,iN,q0,q1,q2,qR,hcols];done) | rfl
  case hH5=>first | (simp (disch:=omega) only [hds,liveT,cleanAV,cleanCell,clean1,cleanBlk_mk,reduceIte,iS,iA,iN,q0,q1,q2,qR,hcols];done) | rfl
  ·exact ⟨Nat.zero_le _,fun j hj=>by omega⟩
  rintro k ⟨hk,hs⟩
  by_cases hkn:k = S.n
  ·have e:(List.range S.n).find? (clrB S cs i) = none:=by
    rw [List.find?_eq_none]
    intro j hj
    rw [hs j (by rw [hkn];exact List.mem_range.1 hj)]
    simp
   rw [e] at enx
   dsimp only at enx
   repeat (first | (with_reducible first | refine Way.imp ?_ | refine blk_o rfl ?_) | ((with_reducible refine WayR.imp (fun K hK=>?_));simp (disch:=first | omega | (simp only [dls];omega)) only [std,reduceIte,reduceCtorEq,iT,nA,nS,nM,iA,iS,iM,iN,fU];subst hK))
   refine ⟨(i + 1),?hI6,?hM6,Fgt.head (show _ <= 6 from Nat.le_of_ble_eq_true rfl) [true,false,false,false,false,false,false,false,true,true] ?hT6 ?hH6⟩
   case hT6=>first | (simp (disch:=omega) only [hds,liveT,cleanAV,cleanCell,clean1,cleanBlk_mk,reduceIte,iS,iA,iN,q0,q1,q2,qR,enx];done) | rfl
   case hH6=>first | (simp (disch:=omega) only [hds,liveT,cleanAV,cleanCell,clean1,cleanBlk_mk,reduceIte,iS,iA,iN,q0,q1,q2,qR,enx];done) | rfl
   ·show i + 1 <= S.m;omega
   ·show S.m - (i + 1) < S.m - i;omega
  ·have hkl:k < S.n:=by omega
   have hct:=contains_I (rowO (intsN cs)) (k:Int) (by rw [osl_rowO];omega)
   rw [osl_rowO,contains_N] at hct
   have nxt:clrB S cs i k = false -> ∀ j,j < k + 1 -> clrB S cs i j = false:=fun hf j hj=>by
    by_cases e:j = k
    ·rw [e];exact hf
    ·exact hs j (by omega)
   cases hc:cs.contains k with
   | true =>
    rw [hc] at hct
    have hf:clrB S cs i k = false:=by unfold clrB;rw [hc];rfl
    repeat (first | (with_reducible first | refine Way.imp ?_ | refine blk_o rfl ?_) | ((with_reducible refine WayR.imp (fun K hK=>?_));simp (disch:=first | omega | (simp only [dls];omega)) only [std,reduceIte,reduceCtorEq,iT,nA,nS,nM,iA,iS,iM,iN,fU];subst hK) | (apply call_flat (hct) rfl;(case hcl=>(simp only [evs,St.ev,constAV,evl];(repeat (first | exact closeAVs_nil | (apply closeAVs_cons;(first | (refine close_own3 rfl (by decide)) | (refine close_ownO rfl (by decide) ?_;assumption) | rfl))));done));(case hf=>rfl)))
    refine ⟨(k + 1),?hI7,?hM7,Fgt.head (show _ <= 6 from Nat.le_of_ble_eq_true rfl) [true,false,true,false,false,false,false,false,true,true,false,false,false,false,false,false,false,false,false,false,false,false,false,false,false,false,false,false,true,true] ?hT7 ?hH7⟩
    case hT7=>first | (simp (disch:=omega) only [hds,liveT,cleanAV,cleanCell,clean1,cleanBlk_mk,reduceIte,iS,iA,iN,q0,q1,q2,qR];done) | rfl
    case hH7=>first | (simp (disch:=omega) only [hds,liveT,cleanAV,cleanCell,clean1,cleanBlk_mk,reduceIte,iS,iA,iN,q0,q1,q2,qR];done) | rfl
    ·exact ⟨hkl,nxt hf⟩
    ·show S.n - (k + 1) < S.n - k;omega
   | false =>
    rw [hc] at hct
    have hk2:k < (osl (colsM S)).length:=by omega
    have hck:=colsM_at hk2
    have hkc:k < S.cols.length:=by have:=hS.cl;omega
    have fcol:∀ q ∈ S.cols.getD k [],FitsQ q L:=fun q hq=>by
     rw [List.getD_eq_getElem?_getD,List.getElem?_eq_getElem hkc] at hq
     exact hS.colf _ (List.getElem_mem hkc) q hq
    have fd:∀ q ∈ dL S cs k,FitsQ q (4 ^ S.m * (L + 1)):=fun q hq=>fits_sol (wf_turnL (wf_sq hS hB.len)) l1 (hS.cm k hkl) fcol q hq
    have hs2:=solve_O S L hS cs hbl (S.cols.getD k []) (hS.cm k hkl) fcol v vb nb mn st bu wk P0 P1 P2 R h0 h1 h2 hR
    change OpenC _ _ _ _ (aV (rowV (dL S cs k))) _ at hs2
    unfold tB at hs2
    have hdl:=d_len hS.toWf hB k
    have hrd:=len_rowV (dL S cs k)
    have hdi:i < (osl (rowV (dL S cs k))).length:=by omega
    have hrg:=rowV_at hdi
    have hsg:=rsign_C (rawQ ((dL S cs k).getD i 0)) (fits_rawQ ((fd _ (by rw [List.getD_eq_getElem?_getD,List.getElem?_eq_getElem (by omega)];exact List.getElem_mem _)).mono (by omega)))
    have hsz:=sgn_nz ((dL S cs k).getD i 0)
    have hcb:clrB S cs i k = decide ((dL S cs k).getD i 0 ≠ 0):=by unfold clrB;rw [hc];rfl
    generalize sgn (rawQ ((dL S cs k).getD i 0)).top = z at hsg hsz
    by_cases hz0:z = 0
    ·have hf:clrB S cs i k = false:=by rw [hcb];exact decide_eq_false (fun h=>h (hsz.1 hz0))
     repeat (first | (with_reducible first | refine Way.imp ?_ | refine blk_o rfl ?_) | ((with_reducible refine WayR.imp (fun K hK=>?_));simp (disch:=first | omega | (simp only [dls];omega)) only [std,reduceIte,reduceCtorEq,iT,nA,nS,nM,iA,iS,iM,iN,fU,fM,fR,hck,hrg];subst hK) | (apply call_flat (hct) rfl;(case hcl=>(simp only [evs,St.ev,constAV,evl];(repeat (first | exact closeAVs_nil | (apply closeAVs_cons;(first | (refine close_own3 rfl (by decide)) | (refine close_ownO rfl (by decide) ?_;assumption) | rfl))));done));(case hf=>rfl)) | (apply call_quiet_g (hs2) rfl rfl;(case hg=>simp (disch:=first | omega | (simp only [dls];omega)) only [std,reduceIte,reduceCtorEq,iT,nA,nS,nM,iA,iS,iM,iN,fU,fM,fR,hck,hrg])) | (apply call_any_g (hsg) rfl;(case hg=>simp (disch:=first | omega | (simp only [dls];omega)) only [std,reduceIte,reduceCtorEq,iT,nA,nS,nM,iA,iS,iM,iN,fU,fM,fR,hck,hrg]);(case hcl=>(simp only [evs,St.ev,constAV,evl];(repeat (first | exact closeAVs_nil | (apply closeAVs_cons;(first | (refine close_own3 rfl (by decide)) | (refine close_ownO rfl (by decide) ?_;assumption) | rfl))));done));(case hu=>rfl)))
     refine ⟨(k + 1),?hI8,?hM8,Fgt.head (show _ <= 6 from Nat.le_of_ble_eq_true rfl) [true,false,true,false,false,false,false,false,true,true,false,false,false,false,false,false,false,false,false,false,false,false,false,false,false,false,false,false,true,true] ?hT8 ?hH8⟩
     case hT8=>first | (simp (disch:=omega) only [hds,liveT,cleanAV,cleanCell,clean1,cleanBlk_mk,reduceIte,iS,iA,iN,q0,q1,q2,qR];done) | rfl
     case hH8=>first | (simp (disch:=omega) only [hds,liveT,cleanAV,cleanCell,clean1,cleanBlk_mk,reduceIte,iS,iA,iN,q0,q1,q2,qR];done) | rfl
     ·exact ⟨hkl,nxt hf⟩
     ·show S.n - (k + 1) < S.n - k;omega
    ·have hf:clrB S cs i k = true:=by rw [hcb];exact decide_eq_true (fun h=>hz0 (hsz.2 h))
     have e:(List.range S.n).find? (clrB S cs i) = some k:=by
      rw [List.find?_range_eq_some]
      exact ⟨hf,List.mem_range.2 hkl,fun j hj=>by rw [hs j hj];rfl⟩
     rw [e] at enx
     dsimp only at enx
     have hsI:∀ b:Int,(encB fI (intsN cs)).set i [Cell.c (.val (.int .i64 b))] = encB fI ((intsN cs).set i b):=fun b=>encB_set (intsN cs) i b
     have hsk:=intsN_set cs i k
     repeat (first | (with_reducible first | refine Way.imp ?_ | refine blk_o rfl ?_) | ((with_reducible refine WayR.imp (fun K hK=>?_));simp (disch:=first | omega | (simp only [dls];omega)) only [std,reduceIte,reduceCtorEq,iT,nA,nS,nM,iA,iS,iM,iN,fU,fM,fI,fR,hck,hrg,hsI];subst hK) | (apply call_flat (hct) rfl;(case hcl=>(simp only [evs,St.ev,constAV,evl];(repeat (first | exact closeAVs_nil | (apply closeAVs_cons;(first | (refine close_own3 rfl (by decide)) | (refine close_ownO rfl (by decide) ?_;assumption) | rfl))));done));(case hf=>rfl)) | (apply call_quiet_g (hs2) rfl rfl;(case hg=>simp (disch:=first | omega | (simp only [dls];omega)) only [std,reduceIte,reduceCtorEq,iT,nA,nS,nM,iA,iS,iM,iN,fU,fM,fI,fR,hck,hrg,hsI])) | (apply call_any_g (hsg) rfl;(case hg=>simp (disch:=first | omega | (simp only [dls];omega)) only [std,reduceIte,reduceCtorEq,iT,nA,nS,nM,iA,iS,iM,iN,fU,fM,fI,fR,hck,hrg,hsI]);(case hcl=>(simp only [evs,St.ev,constAV,evl];(repeat (first | exact closeAVs_nil | (apply closeAVs_cons;(first | (refine close_own3 rfl (by decide)) | (refine close_ownO rfl (by decide) ?_;assumption) | rfl))));done));(case hu=>rfl)))
     refine ⟨(i + 1),?hI9,?hM9,Fgt.head (show _ <= 6 from Nat.le_of_ble_eq_true rfl) [true,false,false,false,false,false,false,false,true,true] ?hT9 ?hH9⟩
     case hT9=>first | (simp (disch:=omega) only [hds,liveT,cleanAV,cleanCell,clean1,cleanBlk_mk,reduceIte,iS,iA,iN,q0,q1,q2,qR,enx,hsk];done) | rfl
     case hH9=>first | (simp (disch:=omega) only [hds,liveT,cleanAV,cleanCell,clean1,cleanBlk_mk,reduceIte,iS,iA,iN,q0,q1,q2,qR,enx,hsk];done) | rfl
     ·show i + 1 <= S.m;omega
     ·show S.m - (i + 1) < S.m - i;omega
abbrev c65_k1:CC:=(.seq (.reg [⟨some 38,none,.mv (.tmp 5)⟩,⟨some 4,none,.mv (.tmp 38)⟩]) .ret)
abbrev c65_b1:CC:=(.seq (.reg [⟨some 20,none,.bin .lss (.tmp 19) (.tmp 18)⟩]) (.seq (.cond (.tmp 20) .skip (.exit 0)) (.seq (.block 1 (.seq (.reg [⟨some 21,none,.mv (.tmp 19)⟩,⟨some 22,none,.iaddr 1 none (.tmp 17) (.tmp 19)⟩,⟨some 23,none,.load 1 false (.tmp 22)⟩,⟨some 6,none,.mv (.tmp 21)⟩,⟨some 7,none,.mv (.tmp 23)⟩]) (.seq (.reg [⟨some 24,none,.mv (.tmp 7)⟩,⟨some 25,none,.mv (.tmp 0)⟩,⟨some 26,none,.faddr 0 (.tmp 25)⟩,⟨some 27,none,.faddr 0 (.tmp 26)⟩,⟨some 28,none,.load 1 false (.tmp 27)⟩,⟨some 29,none,.bin .lss (.tmp 24) (.tmp 28)⟩]) (.cond (.tmp 29) (.reg [⟨some 30,none,.mv (.tmp 5)⟩,⟨some 31,none,.mv (.tmp 7)⟩,⟨some 32,none,.mv (.tmp 1)⟩,⟨some 33,none,.mv (.tmp 6)⟩,⟨some 34,none,.iaddr 3 none (.tmp 32) (.tmp 33)⟩,⟨some 35,none,.load 3 true (.tmp 34)⟩,⟨some 36,none,.iaddr 3 none (.tmp 30) (.tmp 31)⟩,⟨none,none,.store 3 (.tmp 36) (.tmp 35)⟩]) .skip)))) (.reg [⟨some 37,none,.bin .add (.tmp 19) (.const (.int .i64 (1)))⟩,⟨some 19,none,.mv (.tmp 37)⟩]))))
abbrev c65:CC:=(.seq (.reg [⟨some 4,none,.mv (.const (.slice none 0 0))⟩]) (.seq (.reg [⟨some 8,none,.mv (.tmp 0)⟩,⟨some 9,none,.faddr 0 (.tmp 8)⟩,⟨some 10,none,.faddr 0 (.tmp 9)⟩,⟨some 11,none,.load 1 false (.tmp 10)⟩,⟨some 12,none,.make 3 1 8 [(.int .i64 (0))] (.tmp 11) (.tmp 11)⟩,⟨some 13,none,.callf (.func 20) [(.tmp 12)]⟩,⟨some 5,none,.mv (.tmp 13)⟩]) (.seq (.seq (.reg [⟨some 14,none,.mv (.tmp 0)⟩,⟨some 15,none,.faddr 0 (.tmp 14)⟩,⟨some 16,none,.faddr 5 (.tmp 15)⟩,⟨some 17,none,.load 1 false (.tmp 16)⟩,⟨some 18,none,.len false (.tmp 17)⟩,⟨some 19,none,.mv (.const (.int .i64 (0)))⟩]) (.block 0 (.loop c65_b1))) c65_k1)))
theorem cc65:ccode Try.prog [] (Try.f65.body.getD .skip) = some c65:=by kernel_rfl
theorem body65:Try.f65.body = some (Try.f65.body.getD .skip):=rfl
theorem spread_P (S:SD) (hn:S.n <= 5000) (bs:List Nat) (bl:Option (List Int)) (hob:osl bl = intsN bs) (l:List Rat) (hl:l.length = bs.length) (hbl:bs.length <= 1000) (mn:CV) (st bu:Int) (wk:CV) :
  PureC Try.prog 65 [aTc S mn (encSl 1 fI bl) st bu wk,aV (rowV l)] (.fresh 41 3 (((spreadL S bs l).map rawQ).map fR) (!decide (S.n = 0))):=by
 have hints:=ints0 S.n (by omega)
 have hol:(osl bl).length = bs.length:=by rw [hob,intsN_length]
 have hrl:=len_rowV l
 have hsl:=fun i=>spread_len S.n bs l i
 have hz:(List.replicate S.n (rawQ 0)) = (spreadTo S.n bs l 0).map rawQ:=by unfold spreadTo;rw [List.map_replicate]
 refine pureC_of (rs:=[(RV.tmp 4)]) Try.func65 (fun a w=>Try.call65 a w) body65 cc65 (by kernel_rfl) ?_
 rw [Try.ntmps65]
 simp only [frs,nA,nS]
 repeat (first | (with_reducible first | refine Way.imp ?_ | refine blk_o rfl ?_) | ((with_reducible refine WayR.imp (fun K hK=>?_));simp (disch:=first | omega | (simp only [dls];omega)) only [std,reduceIte,reduceCtorEq,iT,nA,nS,nM,iA,iS,iM,iN,fU,repI0];subst hK) | (apply call_new (hints) rfl;(case hcl=>(simp only [evs,St.ev,constAV,evl];(repeat (first | exact closeAVs_nil | (apply closeAVs_cons;(first | (refine close_own3 rfl (by decide)) | (refine close_ownO rfl (by decide) ?_;assumption) | rfl))));done));(case hu=>(simp only [evs,St.ev,constAV,evl];(repeat (first | exact used_nil | (apply used_cons;(first | (apply used_own3;rfl) | rfl))));done));(case hh=>((simp only [fzl,freezeFrom_keep,nB,nA,Bool.false_eq_true,if_true,if_false,reduceIte]) <;> rfl))))
 refine awp_loop (fun (zz:Nat × (List RR))=>⟨(aTc S mn (encSl 1 fI bl) st bu wk :: aV (rowV l) :: .junk :: .junk :: .junk :: .one (.own 1 0) :: .junk :: .junk :: .junk :: .junk :: .junk :: .junk :: .junk :: .junk :: .junk :: .junk :: .junk :: aIs bl :: aI bs.length :: aI zz.1 :: .junk :: .junk :: .junk :: .junk :: .junk :: .junk :: .junk :: .junk :: .junk :: .junk :: .junk :: .junk :: .junk :: .junk :: .junk :: .junk :: .junk :: .junk :: .junk :: []),[⟨0,3,1,encB fI (List.replicate S.n 0),false,true⟩,⟨0,41,3,encB fR zz.2,true,!decide (S.n = 0)⟩]⟩) (fun (zz:Nat × (List RR))=>zz.1 <= bs.length /\ zz.2 = (spreadTo S.n bs l zz.1).map rawQ) (fun (zz:Nat × (List RR))=>bs.length - zz.1) (0,List.replicate S.n (rawQ 0)) ?hI1 (Fgt.head (Nat.zero_le 2) [true,true,false,false,false,true,false,false,false,false,false,false,false,false,false,false,false,true,true,true] ?hT1 ?hH1) ?hB1
 case hT1=>first | (simp (disch:=omega) only [hds,liveT,cleanAV,cleanCell,clean1,cleanBlk_mk,reduceIte,iS,iA,iN,hol];done) | rfl
 case hH1=>first | (simp (disch:=omega) only [hds,liveT,cleanAV,cleanCell,clean1,cleanBlk_mk,reduceIte,iS,iA,iN,hol];done) | rfl
 ·dsimp only;exact ⟨Nat.zero_le _,hz⟩
 rintro ⟨i,out⟩ ⟨hi,ho⟩
 dsimp only at hi ho
 have houtl:out.length = S.n:=by rw [ho,List.length_map,hsl]
 by_cases him:i = bs.length
 ·repeat (first | (with_reducible first | refine Way.imp ?_ | refine blk_o rfl ?_) | ((with_reducible refine WayR.imp (fun K hK=>?_));simp (disch:=first | omega | (simp only [dls];omega)) only [std,reduceIte,reduceCtorEq,iT,nA,nS,nM,iA,iS,iM,iN,fU];subst hK))
  refine ⟨_,rfl,?_⟩
  rw [ho,him]
  exact Ends.fresh_enc rfl
 ·have hlt:i < bs.length:=by omega
  have hi1:i < (osl bl).length:=by omega
  have hgi:(osl bl)[i] = ((bs.getD i 0:Nat):Int):=by rw [List.getElem_of_eq hob];exact intsN_get (by rw [intsN_length];exact hlt)
  have hl1:i < (osl (rowV l)).length:=by omega
  have hrg:=rowV_at hl1
  have enx:spreadTo S.n bs l (i + 1) = if bs.getD i 0 < S.n then (spreadTo S.n bs l i).set (bs.getD i 0) (l.getD i 0) else spreadTo S.n bs l i:=rfl
  generalize hk:bs.getD i 0 = k at hgi enx
  have hsR:∀ (l:List RR) (k:Nat) (r:RR),(encB fR l).set k [Cell.c (.val (.bool r.minus)),Cell.c (nr r.size),Cell.c (nr r.den)] = encB fR (l.set k r):=fun l k r=>encB_set l k r
  by_cases hkn:k < S.n
  ·rw [if_pos hkn] at enx
   have hN0:decide (S.n = 0) = false:=decide_eq_false (by omega)
   repeat (first | (with_reducible first | refine Way.imp ?_ | refine blk_o rfl ?_) | ((with_reducible refine WayR.imp (fun K hK=>?_));simp (disch:=first | omega | (simp only [dls];omega)) only [std,reduceIte,reduceCtorEq,iT,nA,nS,nM,iA,iS,iM,iN,fU,fI,fR,hgi,hrg,hsR];subst hK))
   refine ⟨(i + 1,out.set k (rawQ (l.getD i 0))),?hI2,?hM2,Fgt.head (Nat.zero_le 2) [true,true,false,false,false,true,false,false,false,false,false,false,false,false,false,false,false,true,true,true] ?hT2 ?hH2⟩
   case hT2=>first | (simp (disch:=omega) only [hds,liveT,cleanAV,cleanCell,clean1,cleanBlk_mk,reduceIte,iS,iA,iN,hN0,Bool.not_false];done) | rfl
   case hH2=>first | (simp (disch:=omega) only [hds,liveT,cleanAV,cleanCell,clean1,cleanBlk_mk,reduceIte,iS,iA,iN,hN0,Bool.not_false];done) | rfl
   ·dsimp only;exact ⟨hlt,by rw [enx,ho,List.map_set]⟩
   ·dsimp only;omega
  ·rw [if_neg hkn] at enx
   repeat (first | (with_reducible first | refine Way.imp ?_ | refine blk_o rfl ?_) | ((with_reducible refine WayR.imp (fun K hK=>?_));simp (disch:=first | omega | (simp only [dls];omega)) only [std,reduceIte,reduceCtorEq,iT,nA,nS,nM,iA,iS,iM,iN,fU,fI,fR,hgi,hrg];subst hK))
   refine ⟨(i + 1,out),?hI3,?hM3,Fgt.head (Nat.zero_le 2) [true,true,false,false,false,true,false,false,false,false,false,false,false,false,false,false,false,true,true,true] ?hT3 ?hH3⟩
   case hT3=>first | (simp (disch:=omega) only [hds,liveT,cleanAV,cleanCell,clean1,cleanBlk_mk,reduceIte,iS,iA,iN];done) | rfl
   case hH3=>first | (simp (disch:=omega) only [hds,liveT,cleanAV,cleanCell,clean1,cleanBlk_mk,reduceIte,iS,iA,iN];done) | rfl
   ·dsimp only;exact ⟨hlt,by rw [enx];exact ho⟩
   ·dsimp only;omega
def fBo (b:Bool):List CV:=[.val (.bool b)]
def mnV (l:List Bool):CV:=encSl 1 fBo (rowO l)
def turnTo (ms:List Bool) (l:List Rat) (i:Nat):List Rat:=(List.range i).map fun j=>if ms.getD j false then -(l.getD j 0) else l.getD j 0
theorem turnTo_succ (ms:List Bool) (l:List Rat) (i:Nat):turnTo ms l (i + 1) = turnTo ms l i ++ [if ms.getD i false then -(l.getD i 0) else l.getD i 0]:=by unfold turnTo;rw [List.range_succ,List.map_append];rfl
theorem turnTo_len (ms:List Bool) (l:List Rat) (i:Nat):(turnTo ms l i).length = i:=by unfold turnTo;rw [List.length_map,List.length_range]
abbrev c41_k1:CC:=(.seq (.reg [⟨some 29,none,.mv (.tmp 5)⟩,⟨some 4,none,.mv (.tmp 29)⟩]) .ret)
abbrev c41_b1:CC:=(.seq (.reg [⟨some 11,none,.bin .lss (.tmp 10) (.tmp 9)⟩]) (.seq (.cond (.tmp 11) .skip (.exit 0)) (.seq (.block 1 (.seq (.reg [⟨some 12,none,.mv (.tmp 10)⟩,⟨some 13,none,.iaddr 3 none (.tmp 8) (.tmp 10)⟩,⟨some 14,none,.load 3 true (.tmp 13)⟩,⟨some 7,none,.new 41 [(.bool false),(.slice none 0 0),(.slice none 0 0)]⟩,⟨some 6,none,.mv (.tmp 12)⟩,⟨none,none,.store 3 (.tmp 7) (.tmp 14)⟩]) (.seq (.seq (.reg [⟨some 15,none,.mv (.tmp 0)⟩,⟨some 16,none,.faddr 0 (.tmp 15)⟩,⟨some 17,none,.faddr 4 (.tmp 16)⟩,⟨some 18,none,.load 1 false (.tmp 17)⟩,⟨some 19,none,.mv (.tmp 6)⟩,⟨some 20,none,.iaddr 1 none (.tmp 18) (.tmp 19)⟩,⟨some 21,none,.load 1 false (.tmp 20)⟩]) (.cond (.tmp 21) (.reg [⟨some 22,none,.load 3 true (.tmp 7)⟩,⟨some 23,none,.callf (.func 72) [(.tmp 22)]⟩,⟨none,none,.store 3 (.tmp 7) (.tmp 23)⟩]) .skip)) (.reg [⟨some 24,none,.mv (.tmp 5)⟩,⟨some 25,none,.load 3 true (.tmp 7)⟩,⟨some 26,none,.mkrow 41 3 [(.tmp 25)]⟩,⟨some 27,none,.append 41 3 56 (.tmp 24) (.tmp 26)⟩,⟨some 5,none,.mv (.tmp 27)⟩])))) (.reg [⟨some 28,none,.bin .add (.tmp 10) (.const (.int .i64 (1)))⟩,⟨some 10,none,.mv (.tmp 28)⟩]))))
abbrev c41:CC:=(.seq (.reg [⟨some 4,none,.mv (.const (.slice none 0 0))⟩]) (.seq (.reg [⟨some 5,none,.mv (.const (.slice none 0 0))⟩]) (.seq (.seq (.reg [⟨some 8,none,.mv (.tmp 1)⟩,⟨some 9,none,.len false (.tmp 8)⟩,⟨some 10,none,.mv (.const (.int .i64 (0)))⟩]) (.block 0 (.loop c41_b1))) c41_k1)))
theorem cc41:ccode Try.prog [] (Try.f41.body.getD .skip) = some c41:=by kernel_rfl
theorem body41:Try.f41.body = some (Try.f41.body.getD .skip):=rfl
theorem turn_P (S:SD) (ms:List Bool) (l:List Rat) (L:Nat) (hl:l.length <= ms.length) (hm:ms.length <= 1000) (hlf:∀ q ∈ l,FitsQ q L) (hL:L <= 9000000) (bc:CV) (st bu:Int) (wk:CV) :
  PureC Try.prog 41 [aTc S (mnV ms) bc st bu wk,aV (rowV l)] (.ret (aV (rowV (turnTo ms l l.length)))):=by
 have hob:osl (rowO ms) = ms:=osl_rowO _
 have hrl:=len_rowV l
 refine PureC.fresh_rowO (ty:=41) (l:=(turnTo ms l l.length).map rawQ) ?_
 unfold mnV
 refine pureC_of (rs:=[(RV.tmp 4)]) Try.func41 (fun a w=>Try.call41 a w) body41 cc41 (by kernel_rfl) ?_
 rw [Try.ntmps41]
 simp only [frs,nA,nS]
 repeat (first | (with_reducible first | refine Way.imp ?_ | refine blk_o rfl ?_) | ((with_reducible refine WayR.imp (fun K hK=>?_));simp (disch:=first | omega | (simp only [dls];omega)) only [std,reduceIte,reduceCtorEq,iT,nA,nS,nM,iA,iS,iM,iN,fU];subst hK))
 refine AWp.fgt ?_ (Fgt.openNil (i:=5) rfl 41 3)
 simp only [List.set_cons_succ,List.set_cons_zero,List.length_nil,List.length_cons,List.nil_append,List.cons_append,nA]
 refine awp_loop (fun (zz:Nat × (List RR) × Nat × Bool)=>⟨(aTc S (encSl 1 fBo (rowO ms)) bc st bu wk :: .junk :: .junk :: .junk :: .junk :: .one (.own 0 zz.2.2.1) :: .junk :: .junk :: aV (rowV l) :: aI l.length :: aI zz.1 :: .junk :: .junk :: .junk :: .junk :: .junk :: .junk :: .junk :: .junk :: .junk :: .junk :: .junk :: .junk :: .junk :: .junk :: .junk :: .junk :: .junk :: .junk :: .junk :: []),[⟨zz.2.2.1,41,3,encB fR zz.2.1,true,zz.2.2.2⟩]⟩) (fun (zz:Nat × (List RR) × Nat × Bool)=>zz.1 <= l.length /\ zz.2.1 = (turnTo ms l zz.1).map rawQ /\ zz.2.2.2 = !zz.2.1.isEmpty) (fun (zz:Nat × (List RR) × Nat × Bool)=>l.length - zz.1) (0,[],0,false) ?hI4 (Fgt.head (Nat.zero_le 1) [true,false,false,false,false,true,false,false,true,true,true] ?hT4 ?hH4) ?hB4
 case hT4=>first | (simp (disch:=omega) only [hds,liveT,cleanAV,cleanCell,clean1,cleanBlk_mk,reduceIte,iS,iA,iN,encB_nil,hrl];done) | rfl
 case hH4=>first | (simp (disch:=omega) only [hds,liveT,cleanAV,cleanCell,clean1,cleanBlk_mk,reduceIte,iS,iA,iN,encB_nil,hrl];done) | rfl
 ·dsimp only;exact ⟨Nat.zero_le _,rfl,rfl⟩
 rintro ⟨i,out,u,nn⟩ ⟨hi,ho,hnn⟩
 dsimp only at hi ho hnn
 by_cases him:i = l.length
 ·repeat (first | (with_reducible first | refine Way.imp ?_ | refine blk_o rfl ?_) | ((with_reducible refine WayR.imp (fun K hK=>?_));simp (disch:=first | omega | (simp only [dls];omega)) only [std,reduceIte,reduceCtorEq,iT,nA,nS,nM,iA,iS,iM,iN,fU];subst hK))
  refine ⟨_,rfl,?_⟩
  rw [him] at ho
  rw [<- ho,<- hnn]
  exact Ends.fresh_enc rfl
 ·have hlt:i < l.length:=by omega
  have hl1:i < (osl (rowV l)).length:=by omega
  have hrg:=rowV_at hl1
  have hm1:i < (osl (rowO ms)).length:=by rw [hob];omega
  have hmg:(osl (rowO ms))[i] = ms.getD i false:=by rw [List.getElem_of_eq hob,List.getD_eq_getElem?_getD,List.getElem?_eq_getElem (by omega)];rfl
  have hol:out.length = i:=by rw [ho,List.length_map,turnTo_len]
  have hng:=rneg_C (rawQ (l.getD i 0)) (fits_rawQ ((hlf _ (by rw [List.getD_eq_getElem?_getD,List.getElem?_eq_getElem hlt];exact List.getElem_mem _)).mono hL))
  rw [rawQ_val] at hng
  have enx:=turnTo_succ ms l i
  cases hb:ms.getD i false with
  | true =>
   rw [hb,if_pos rfl] at enx
   rw [hb] at hmg
   repeat (first | (with_reducible first | refine Way.imp ?_ | refine blk_o rfl ?_) | ((with_reducible refine WayR.imp (fun K hK=>?_));simp (disch:=first | omega | (simp only [dls];omega)) only [std,reduceIte,reduceCtorEq,iT,nA,nS,nM,iA,iS,iM,iN,fU,fR,fBo,hrg,hmg];subst hK) | refine zcA (hng) rfl rfl rfl ?_)
   refine ⟨(i + 1,out ++ [rawQ (-(l.getD i 0))],u + 1,true),?hI5,?hM5,Fgt.head (Nat.zero_le 1) [true,false,false,false,false,true,false,false,true,true,true] ?hT5 ?hH5⟩
   case hT5=>first | (simp (disch:=omega) only [hds,liveT,cleanAV,cleanCell,clean1,cleanBlk_mk,reduceIte,iS,iA,iN,encB_snoc_row,List.isEmpty_cons,Bool.or_true,Bool.not_false];done) | rfl
   case hH5=>first | (simp (disch:=omega) only [hds,liveT,cleanAV,cleanCell,clean1,cleanBlk_mk,reduceIte,iS,iA,iN,encB_snoc_row,List.isEmpty_cons,Bool.or_true,Bool.not_false];done) | rfl
   ·dsimp only;refine ⟨hlt,by rw [enx,ho,List.map_append];rfl,by cases out <;> rfl⟩
   ·dsimp only;omega
  | false =>
   rw [hb,if_neg (by simp)] at enx
   rw [hb] at hmg
   repeat (first | (with_reducible first | refine Way.imp ?_ | refine blk_o rfl ?_) | ((with_reducible refine WayR.imp (fun K hK=>?_));simp (disch:=first | omega | (simp only [dls];omega)) only [std,reduceIte,reduceCtorEq,iT,nA,nS,nM,iA,iS,iM,iN,fU,fR,fBo,hrg,hmg];subst hK))
   refine ⟨(i + 1,out ++ [rawQ (l.getD i 0)],u + 1,true),?hI6,?hM6,Fgt.head (Nat.zero_le 1) [true,false,false,false,false,true,false,false,true,true,true] ?hT6 ?hH6⟩
   case hT6=>first | (simp (disch:=omega) only [hds,liveT,cleanAV,cleanCell,clean1,cleanBlk_mk,reduceIte,iS,iA,iN,encB_snoc_row,List.isEmpty_cons,Bool.or_true,Bool.not_false];done) | rfl
   case hH6=>first | (simp (disch:=omega) only [hds,liveT,cleanAV,cleanCell,clean1,cleanBlk_mk,reduceIte,iS,iA,iN,encB_snoc_row,List.isEmpty_cons,Bool.or_true,Bool.not_false];done) | rfl
   ·dsimp only;refine ⟨hlt,by rw [enx,ho,List.map_append];rfl,by cases out <;> rfl⟩
   ·dsimp only;omega
theorem turn_O (n m:Int) (ms:List Bool) (bt:CV) (st bu:Int) (wk:CV) (l:List Rat) (L:Nat) (hl:l.length <= ms.length) (hm:ms.length <= 1000) (hlf:∀ q ∈ l,FitsQ q L) (hL:L <= 9000000) (v vb uc:Nat) (nb nc:Bool) (is:List Int) (cs:List VV) (P0 P1 P2:Blk) (h0:Pad P0) (h1:Pad P1) (h2:Pad P2) :
  OpenC Try.prog 41 [aT v,aV (rowV l)] [P0,P1,P2,⟨v,77,9,[[.c (.val (.int .i64 n)),.c (.val (.int .i64 m)),.own 5 uc,.c bt,.c (mnV ms),.own 4 vb,.c (.val (.int .i64 st)),.c (.val (.int .i64 bu)),.c wk]],true,true⟩,⟨vb,3,1,encB fI is,true,nb⟩,⟨uc,23,1,encB fM cs,true,nc⟩]
   (aV (rowV (turnTo ms l l.length))) [P0,P1,P2,⟨v,77,9,[[.c (.val (.int .i64 n)),.c (.val (.int .i64 m)),.own 5 uc,.c bt,.c (mnV ms),.own 4 vb,.c (.val (.int .i64 st)),.c (.val (.int .i64 bu)),.c wk]],true,true⟩,⟨vb,3,1,encB fI is,true,nb⟩,⟨uc,23,1,encB fM cs,true,nc⟩]:=by
 have hob:osl (rowO ms) = ms:=osl_rowO _
 have hrl:=len_rowV l
 unfold Pad at h0 h1 h2
 unfold mnV
 refine openC_of (rs:=[(RV.tmp 4)]) Try.func41 (fun a w=>Try.call41 a w) body41 cc41 (by kernel_rfl) ?_
 rw [Try.ntmps41]
 simp only [frs,nA,nS]
 repeat (first | (with_reducible first | refine Way.imp ?_ | refine blk_o rfl ?_) | ((with_reducible refine WayR.imp (fun K hK=>?_));simp (disch:=first | omega | (simp only [dls];omega)) only [std,reduceIte,reduceCtorEq,iT,nA,nS,nM,iA,iS,iM,iN,fU];subst hK))
 refine AWp.fgt ?_ (Fgt.openNil (i:=5) rfl 41 3)
 simp only [List.set_cons_succ,List.set_cons_zero,List.length_nil,List.length_cons,List.nil_append,List.cons_append,nA]
 refine awp_loop (fun (zz:Nat × (List RR) × Nat × Bool)=>⟨(aT v :: .junk :: .junk :: .junk :: .junk :: .one (.own 6 zz.2.2.1) :: .junk :: .junk :: aV (rowV l) :: aI l.length :: aI zz.1 :: .junk :: .junk :: .junk :: .junk :: .junk :: .junk :: .junk :: .junk :: .junk :: .junk :: .junk :: .junk :: .junk :: .junk :: .junk :: .junk :: .junk :: .junk :: .junk :: []),[P0,P1,P2,⟨v,77,9,[[.c (.val (.int .i64 n)),.c (.val (.int .i64 m)),.own 5 uc,.c bt,.c (encSl 1 fBo (rowO ms)),.own 4 vb,.c (.val (.int .i64 st)),.c (.val (.int .i64 bu)),.c wk]],true,true⟩,⟨vb,3,1,encB fI is,true,nb⟩,⟨uc,23,1,encB fM cs,true,nc⟩,⟨zz.2.2.1,41,3,encB fR zz.2.1,true,zz.2.2.2⟩]⟩) (fun (zz:Nat × (List RR) × Nat × Bool)=>zz.1 <= l.length /\ zz.2.1 = (turnTo ms l zz.1).map rawQ /\ zz.2.2.2 = !zz.2.1.isEmpty) (fun (zz:Nat × (List RR) × Nat × Bool)=>l.length - zz.1) (0,[],0,false) ?hI7 (Fgt.head (show _ <= 7 from Nat.le_of_ble_eq_true rfl) [true,false,false,false,false,true,false,false,true,true,true] ?hT7 ?hH7) ?hB7
 case hT7=>first | (simp (disch:=omega) only [hds,liveT,cleanAV,cleanCell,clean1,cleanBlk_mk,reduceIte,iS,iA,iN,encB_nil,hrl,h0,h1,h2];done) | rfl
 case hH7=>first | (simp (disch:=omega) only [hds,liveT,cleanAV,cleanCell,clean1,cleanBlk_mk,reduceIte,iS,iA,iN,encB_nil,hrl,h0,h1,h2];done) | rfl
 ·dsimp only;exact ⟨Nat.zero_le _,rfl,rfl⟩
 rintro ⟨i,out,u,nn⟩ ⟨hi,ho,hnn⟩
 dsimp only at hi ho hnn
 by_cases him:i = l.length
 ·refine AWp.fgt ?_ (Fgt.closeO (i:=5) rfl rfl (by decide) hnn)
  rw [freeze_from]
  simp only [List.set_cons_succ,List.set_cons_zero,fzl,freezeFrom_keep,nB,nA,Bool.false_eq_true,if_true,if_false,reduceIte]
  refine AWp.fgt ?hA8 (Fgt.head (t':=(aT v :: .junk :: .junk :: .junk :: .junk :: aV (rowO out) :: .junk :: .junk :: .junk :: aI l.length :: aI i :: .junk :: .junk :: .junk :: .junk :: .junk :: .junk :: .junk :: .junk :: .junk :: .junk :: .junk :: .junk :: .junk :: .junk :: .junk :: .junk :: .junk :: .junk :: .junk :: [])) (h':=[P0,P1,P2,⟨v,77,9,[[.c (.val (.int .i64 n)),.c (.val (.int .i64 m)),.own 5 uc,.c bt,.c (encSl 1 fBo (rowO ms)),.own 4 vb,.c (.val (.int .i64 st)),.c (.val (.int .i64 bu)),.c wk]],true,true⟩,⟨vb,3,1,encB fI is,true,nb⟩,⟨uc,23,1,encB fM cs,true,nc⟩]) (show _ <= 6 from Nat.le_of_ble_eq_true rfl) [true,false,false,false,false,true,false,false,false,true,true] ?hT8 ?hH8)
  case hT8=>first | (simp (disch:=omega) only [hds,liveT,cleanAV,cleanCell,clean1,cleanBlk_mk,reduceIte,iS,iA,iN,h0,h1,h2];done) | rfl
  case hH8=>first | (simp (disch:=omega) only [hds,liveT,cleanAV,cleanCell,clean1,cleanBlk_mk,reduceIte,iS,iA,iN,h0,h1,h2];done) | rfl
  rw [him] at ho
  subst ho
  repeat (first | (with_reducible first | refine Way.imp ?_ | refine blk_o rfl ?_) | ((with_reducible refine WayR.imp (fun K hK=>?_));simp (disch:=first | omega | (simp only [dls];omega)) only [std,reduceIte,reduceCtorEq,iT,nA,nS,nM,iA,iS,iM,iN,fU];subst hK))
  exact ⟨rfl,rfl⟩
 ·have hlt:i < l.length:=by omega
  have hl1:i < (osl (rowV l)).length:=by omega
  have hrg:=rowV_at hl1
  have hm1:i < (osl (rowO ms)).length:=by rw [hob];omega
  have hmg:(osl (rowO ms))[i] = ms.getD i false:=by rw [List.getElem_of_eq hob,List.getD_eq_getElem?_getD,List.getElem?_eq_getElem (by omega)];rfl
  have hol:out.length = i:=by rw [ho,List.length_map,turnTo_len]
  have hng:=rneg_C (rawQ (l.getD i 0)) (fits_rawQ ((hlf _ (by rw [List.getD_eq_getElem?_getD,List.getElem?_eq_getElem hlt];exact List.getElem_mem _)).mono hL))
  rw [rawQ_val] at hng
  have enx:=turnTo_succ ms l i
  cases hb:ms.getD i false with
  | true =>
   rw [hb,if_pos rfl] at enx
   rw [hb] at hmg
   repeat (first | (with_reducible first | refine Way.imp ?_ | refine blk_o rfl ?_) | ((with_reducible refine WayR.imp (fun K hK=>?_));simp (disch:=first | omega | (simp only [dls];omega)) only [std,reduceIte,reduceCtorEq,iT,nA,nS,nM,iA,iS,iM,iN,fU,fR,fBo,hrg,hmg];subst hK) | refine zcA (hng) rfl rfl rfl ?_)
   refine ⟨(i + 1,out ++ [rawQ (-(l.getD i 0))],u + 1,true),?hI9,?hM9,Fgt.head (show _ <= 7 from Nat.le_of_ble_eq_true rfl) [true,false,false,false,false,true,false,false,true,true,true] ?hT9 ?hH9⟩
   case hT9=>first | (simp (disch:=omega) only [hds,liveT,cleanAV,cleanCell,clean1,cleanBlk_mk,reduceIte,iS,iA,iN,encB_snoc_row,List.isEmpty_cons,Bool.or_true,Bool.not_false,h0,h1,h2];done) | rfl
   case hH9=>first | (simp (disch:=omega) only [hds,liveT,cleanAV,cleanCell,clean1,cleanBlk_mk,reduceIte,iS,iA,iN,encB_snoc_row,List.isEmpty_cons,Bool.or_true,Bool.not_false,h0,h1,h2];done) | rfl
   ·dsimp only;refine ⟨hlt,by rw [enx,ho,List.map_append];rfl,by cases out <;> rfl⟩
   ·dsimp only;omega
  | false =>
   rw [hb,if_neg (by simp)] at enx
   rw [hb] at hmg
   repeat (first | (with_reducible first | refine Way.imp ?_ | refine blk_o rfl ?_) | ((with_reducible refine WayR.imp (fun K hK=>?_));simp (disch:=first | omega | (simp only [dls];omega)) only [std,reduceIte,reduceCtorEq,iT,nA,nS,nM,iA,iS,iM,iN,fU,fR,fBo,hrg,hmg];subst hK))
   refine ⟨(i + 1,out ++ [rawQ (l.getD i 0)],u + 1,true),?hI10,?hM10,Fgt.head (show _ <= 7 from Nat.le_of_ble_eq_true rfl) [true,false,false,false,false,true,false,false,true,true,true] ?hT10 ?hH10⟩
   case hT10=>first | (simp (disch:=omega) only [hds,liveT,cleanAV,cleanCell,clean1,cleanBlk_mk,reduceIte,iS,iA,iN,encB_snoc_row,List.isEmpty_cons,Bool.or_true,Bool.not_false,h0,h1,h2];done) | rfl
   case hH10=>first | (simp (disch:=omega) only [hds,liveT,cleanAV,cleanCell,clean1,cleanBlk_mk,reduceIte,iS,iA,iN,encB_snoc_row,List.isEmpty_cons,Bool.or_true,Bool.not_false,h0,h1,h2];done) | rfl
   ·dsimp only;refine ⟨hlt,by rw [enx,ho,List.map_append];rfl,by cases out <;> rfl⟩
   ·dsimp only;omega
def pfOf (p:PB):PF:=⟨(osl p.A).length,(osl p.C).length,fun i k=>qAt (mAt p.A i) k,fun i=>qAt p.B i,fun k=>qAt p.C k⟩
abbrev sdB (p:PB):SD:=sdP (pfOf p)
def minTo (p:PB) (i:Nat):List Bool:=(List.range i).map fun j=>decide (qAt p.B j < 0)
def bTo (p:PB) (i:Nat):List Rat:=(List.range i).map fun j=>sgnP (pfOf p) j (qAt p.B j)
def bsTo (p:PB) (i:Nat):List Nat:=(List.range i).map fun j=>(osl p.C).length + j
def colsTo (p:PB) (k:Nat):QM:=(List.range k).map fun j=>(List.range (osl p.A).length).map fun i=>sgnP (pfOf p) i (qAt (mAt p.A i) j)
abbrev minL (p:PB):List Bool:=minTo p (osl p.A).length
theorem minTo_succ (p:PB) (i:Nat):minTo p (i + 1) = minTo p i ++ [decide (qAt p.B i < 0)]:=by unfold minTo;rw [List.range_succ,List.map_append];rfl
theorem bTo_succ (p:PB) (i:Nat):bTo p (i + 1) = bTo p i ++ [sgnP (pfOf p) i (qAt p.B i)]:=by unfold bTo;rw [List.range_succ,List.map_append];rfl
theorem bsTo_succ (p:PB) (i:Nat):bsTo p (i + 1) = bsTo p i ++ [(osl p.C).length + i]:=by unfold bsTo;rw [List.range_succ,List.map_append];rfl
theorem colsTo_succ (p:PB) (i:Nat):colsTo p (i + 1) = colsTo p i ++ [(List.range (osl p.A).length).map fun j=>sgnP (pfOf p) j (qAt (mAt p.A j) i)]:=by unfold colsTo;rw [List.range_succ,List.map_append];rfl
theorem bTo_all (p:PB):bTo p (osl p.A).length = (sdB p).b:=rfl
theorem colsTo_all (p:PB):colsTo p (osl p.C).length = (sdB p).cols:=rfl
theorem bsTo_all (p:PB):bsTo p (osl p.A).length = bs0P (pfOf p):=rfl
theorem turn_col (p:PB) (k:Nat):turnTo (minL p) (colTo p k (osl p.A).length) (colTo p k (osl p.A).length).length = (List.range (osl p.A).length).map fun i=>sgnP (pfOf p) i (qAt (mAt p.A i) k):=by
 unfold turnTo
 rw [colTo_len]
 refine List.map_congr_left (fun i hi=>?_)
 have hi':=List.mem_range.1 hi
 have e1:(minL p).getD i false = decide (qAt p.B i < 0):=getD_mapR _ _ i false hi'
 have e2:(colTo p k (osl p.A).length).getD i 0 = qAt (mAt p.A i) k:=getD_mapR _ _ i 0 hi'
 rw [e1,e2]
 unfold sgnP
 show (if decide (qAt p.B i < 0) = true then _ else _) = if qAt p.B i < 0 then _ else _
 by_cases h:qAt p.B i < 0
 ·rw [if_pos h,decide_eq_true h,if_pos rfl]
 ·rw [if_neg h,decide_eq_false h,if_neg (by simp)]
theorem empt_len {α:Type} (l:List α):l.isEmpty = decide (l.length = 0):=by cases l <;> rfl
theorem sgn_low3 (r:RR):(sgn r.top < 0) ↔ r.val < 0:=by
 have:=sgn_below r
 unfold belowB at this
 rw [decide_eq_decide] at this
 exact this
abbrev c39_k1:CC:=(.seq (.reg [⟨some 95,none,.mv (.tmp 5)⟩,⟨some 4,none,.mv (.tmp 95)⟩]) .ret)
abbrev c39_b1:CC:=(.seq (.reg [⟨some 78,none,.bin .lss (.tmp 77) (.tmp 76)⟩]) (.seq (.cond (.tmp 78) .skip (.exit 2)) (.seq (.block 3 (.seq (.reg [⟨some 79,none,.mv (.tmp 77)⟩,⟨some 9,none,.mv (.tmp 79)⟩]) (.reg [⟨some 80,none,.mv (.tmp 5)⟩,⟨some 81,none,.mv (.tmp 5)⟩,⟨some 82,none,.faddr 0 (.tmp 81)⟩,⟨some 83,none,.faddr 2 (.tmp 82)⟩,⟨some 84,none,.load 1 false (.tmp 83)⟩,⟨some 85,none,.mv (.tmp 5)⟩,⟨some 86,none,.load 3 true (.tmp 2)⟩,⟨some 87,none,.mv (.tmp 9)⟩,⟨some 88,none,.callf (.func 28) [(.tmp 86),(.tmp 87)]⟩,⟨some 89,none,.callf (.func 41) [(.tmp 85),(.tmp 88)]⟩,⟨some 90,none,.mkrow 23 1 [(.tmp 89)]⟩,⟨some 91,none,.append 23 1 24 (.tmp 84) (.tmp 90)⟩,⟨some 92,none,.faddr 0 (.tmp 80)⟩,⟨some 93,none,.faddr 2 (.tmp 92)⟩,⟨none,none,.store 1 (.tmp 93) (.tmp 91)⟩]))) (.reg [⟨some 94,none,.bin .add (.tmp 77) (.const (.int .i64 (1)))⟩,⟨some 77,none,.mv (.tmp 94)⟩]))))
abbrev c39_k2:CC:=(.seq (.seq (.reg [⟨some 73,none,.mv (.tmp 5)⟩,⟨some 74,none,.faddr 0 (.tmp 73)⟩,⟨some 75,none,.faddr 0 (.tmp 74)⟩,⟨some 76,none,.load 1 false (.tmp 75)⟩,⟨some 77,none,.mv (.const (.int .i64 (0)))⟩]) (.block 2 (.loop c39_b1))) c39_k1)
abbrev c39_b2:CC:=(.seq (.reg [⟨some 23,none,.bin .lss (.tmp 22) (.tmp 21)⟩]) (.seq (.cond (.tmp 23) .skip (.exit 0)) (.seq (.block 1 (.seq (.reg [⟨some 24,none,.mv (.tmp 22)⟩,⟨some 25,none,.iaddr 3 none (.tmp 20) (.tmp 22)⟩,⟨some 26,none,.load 3 true (.tmp 25)⟩,⟨some 7,none,.new 41 [(.bool false),(.slice none 0 0),(.slice none 0 0)]⟩,⟨some 6,none,.mv (.tmp 24)⟩,⟨none,none,.store 3 (.tmp 7) (.tmp 26)⟩]) (.seq (.reg [⟨some 27,none,.load 3 true (.tmp 7)⟩,⟨some 28,none,.callf (.func 23) [(.tmp 27)]⟩,⟨some 29,none,.bin .lss (.tmp 28) (.const (.int .i64 (0)))⟩,⟨some 8,none,.mv (.tmp 29)⟩]) (.seq (.seq (.reg [⟨some 30,none,.mv (.tmp 8)⟩]) (.cond (.tmp 30) (.reg [⟨some 31,none,.load 3 true (.tmp 7)⟩,⟨some 32,none,.callf (.func 72) [(.tmp 31)]⟩,⟨none,none,.store 3 (.tmp 7) (.tmp 32)⟩]) .skip)) (.regn false [⟨some 33,none,.mv (.tmp 5)⟩,⟨some 34,none,.mv (.tmp 5)⟩,⟨some 35,none,.mv (.tmp 5)⟩,⟨some 36,none,.mv (.tmp 5)⟩,⟨some 37,none,.faddr 0 (.tmp 36)⟩,⟨some 38,none,.faddr 4 (.tmp 37)⟩,⟨some 39,none,.load 1 false (.tmp 38)⟩,⟨some 40,none,.mv (.tmp 8)⟩,⟨some 41,none,.mkrowc 1 [(.tmp 40)]⟩,⟨some 42,none,.append 4 1 1 (.tmp 39) (.tmp 41)⟩,⟨some 43,none,.mv (.tmp 5)⟩,⟨some 44,none,.faddr 0 (.tmp 43)⟩,⟨some 45,none,.faddr 3 (.tmp 44)⟩,⟨some 46,none,.load 1 false (.tmp 45)⟩,⟨some 47,none,.faddr 0 (.tmp 7)⟩,⟨some 48,none,.load 2 true (.tmp 47)⟩,⟨some 49,none,.faddr 2 (.tmp 7)⟩,⟨some 50,none,.load 1 false (.tmp 49)⟩,⟨some 51,none,.callf (.func 47) [(.tmp 48),(.tmp 50)]⟩,⟨some 52,none,.mkrowc 3 [(.tmp 51)]⟩,⟨some 53,none,.append 41 3 56 (.tmp 46) (.tmp 52)⟩,⟨some 54,none,.mv (.tmp 5)⟩,⟨some 55,none,.faddr 0 (.tmp 54)⟩,⟨some 56,none,.faddr 5 (.tmp 55)⟩,⟨some 57,none,.load 1 false (.tmp 56)⟩,⟨some 58,none,.mv (.tmp 5)⟩,⟨some 59,none,.faddr 0 (.tmp 58)⟩,⟨some 60,none,.faddr 0 (.tmp 59)⟩,⟨some 61,none,.load 1 false (.tmp 60)⟩,⟨some 62,none,.mv (.tmp 6)⟩,⟨some 63,none,.bin .add (.tmp 61) (.tmp 62)⟩,⟨some 64,none,.mkrowc 1 [(.tmp 63)]⟩,⟨some 65,none,.append 3 1 8 (.tmp 57) (.tmp 64)⟩,⟨some 66,none,.faddr 0 (.tmp 33)⟩,⟨some 67,none,.faddr 4 (.tmp 66)⟩,⟨none,none,.store 1 (.tmp 67) (.tmp 42)⟩,⟨some 68,none,.faddr 0 (.tmp 34)⟩,⟨some 69,none,.faddr 3 (.tmp 68)⟩,⟨none,none,.store 1 (.tmp 69) (.tmp 53)⟩,⟨some 70,none,.faddr 0 (.tmp 35)⟩,⟨some 71,none,.faddr 5 (.tmp 70)⟩,⟨none,none,.store 1 (.tmp 71) (.tmp 65)⟩]))))) (.reg [⟨some 72,none,.bin .add (.tmp 22) (.const (.int .i64 (1)))⟩,⟨some 22,none,.mv (.tmp 72)⟩]))))
abbrev c39:CC:=(.seq (.reg [⟨some 2,none,.box 25 (.tmp 0)⟩,⟨some 4,none,.mv (.const (.pointer none))⟩]) (.seq (.reg [⟨some 10,none,.faddr 2 (.tmp 2)⟩,⟨some 11,none,.load 1 false (.tmp 10)⟩,⟨some 12,none,.len false (.tmp 11)⟩,⟨some 13,none,.faddr 0 (.tmp 2)⟩,⟨some 14,none,.load 1 false (.tmp 13)⟩,⟨some 15,none,.len false (.tmp 14)⟩,⟨some 16,none,.mv (.tmp 1)⟩,⟨some 17,none,.build [(.int .i64 (0)),(.int .i64 (0)),(.slice none 0 0),(.slice none 0 0),(.slice none 0 0),(.slice none 0 0),(.int .i64 (0)),(.int .i64 (0)),(.slice none 0 0)] [(0,(1,(.tmp 12))),(1,(1,(.tmp 15))),(7,(1,(.tmp 16)))]⟩,⟨some 18,none,.box 77 (.tmp 17)⟩,⟨some 5,none,.mv (.tmp 18)⟩]) (.seq (.seq (.reg [⟨some 19,none,.faddr 1 (.tmp 2)⟩,⟨some 20,none,.load 1 false (.tmp 19)⟩,⟨some 21,none,.len false (.tmp 20)⟩,⟨some 22,none,.mv (.const (.int .i64 (0)))⟩]) (.block 0 (.loop c39_b2))) c39_k2)))
theorem cc39:ccode Try.prog [1000041] (Try.f39.body.getD .skip) = some c39:=by kernel_rfl
theorem body39:Try.f39.body = some (Try.f39.body.getD .skip):=rfl
theorem start_O (p:PB) (L:Nat) (hp:rightB p = true) (hf:FitsM p.A 5000 L) (hB:FitsV p.B 5000 L) (hL:1 <= L) (hL2:L <= 1000000) (bu:Int) (P0 P1:Blk) (h0:Pad P0) (h1:Pad P1) :
  OpenC Try.prog 39 [aP p,aI bu] [P0,P1] (aT 0) [P0,P1,⟨0,25,3,[[.c (encSl 1 fM p.A),.c (vr p.B),.c (vr p.C)]],true,true⟩,tB (sdB p) 0 (mnV (minL p)) (.own 4 (osl p.A).length) 0 bu (.val (.slice none 0 0)),⟨(osl p.A).length,3,1,encB fI (intsN (bs0P (pfOf p))),true,!(intsN (bs0P (pfOf p))).isEmpty⟩]:=by
 obtain ⟨l1,l2,l3,l4⟩:=right_len hp
 have q0:=h0
 have q1:=h1
 unfold Pad at q0 q1
 unfold tB
 refine openC_of (rs:=[(RV.tmp 4)]) Try.func39 (fun a w=>Try.call39 a w) body39 cc39 (by kernel_rfl) ?_
 rw [Try.ntmps39]
 simp only [frs,nA,nS]
 repeat (first | (with_reducible first | refine Way.imp ?_ | refine blk_o rfl ?_) | ((with_reducible refine WayR.imp (fun K hK=>?_));simp (disch:=first | omega | (simp only [dls];omega)) only [std,reduceIte,reduceCtorEq,iT,nA,nS,nM,iA,iS,iM,iN,fU];subst hK))
 refine AWp.fgt ?_ (Fgt.phantom _ 3 1)
 refine AWp.fgt ?_ (Fgt.phantom _ 4 1)
 refine AWp.fgt ?_ (Fgt.phantom _ 41 3)
 refine AWp.fgt ?_ (Fgt.cellsOpen (b:=3) (els':=[[.c (.val (.int .i64 ((osl p.C).length:Int))),.c (.val (.int .i64 ((osl p.A).length:Int))),.c (.val (.slice none 0 0)),.own 6 0,.own 5 0,.own 4 0,.c (.val (.int .i64 0)),.c (.val (.int .i64 bu)),.c (.val (.slice none 0 0))]]) rfl (.cons (.cons (.inl rfl) (.cons (.inl rfl) (.cons (.inl rfl) (.cons (.inr ⟨rfl,6,_,rfl,rfl,rfl⟩) (.cons (.inr ⟨rfl,5,_,rfl,rfl,rfl⟩) (.cons (.inr ⟨rfl,4,_,rfl,rfl,rfl⟩) (.cons (.inl rfl) (.cons (.inl rfl) (.cons (.inl rfl) .nil))))))))) .nil))
 simp only [List.cons_append,List.nil_append,List.set_cons_succ,List.set_cons_zero]
 refine awp_loop (fun (zz:Nat × (List Int) × (List Bool) × (List RR) × Bool)=>⟨(.junk :: aI bu :: .one (.ptr 2 0 0 0) :: .junk :: .junk :: aT 0 :: .junk :: .junk :: .junk :: .junk :: .junk :: .junk :: .junk :: .junk :: .junk :: .junk :: .junk :: .junk :: .junk :: .junk :: aV p.B :: aI (osl p.B).length :: aI zz.1 :: .junk :: .junk :: .junk :: .junk :: .junk :: .junk :: .junk :: .junk :: .junk :: .junk :: .junk :: .junk :: .junk :: .junk :: .junk :: .junk :: .junk :: .junk :: .junk :: .junk :: .junk :: .junk :: .junk :: .junk :: .junk :: .junk :: .junk :: .junk :: .junk :: .junk :: .junk :: .junk :: .junk :: .junk :: .junk :: .junk :: .junk :: .junk :: .junk :: .junk :: .junk :: .junk :: .junk :: .junk :: .junk :: .junk :: .junk :: .junk :: .junk :: .junk :: .junk :: .junk :: .junk :: .junk :: .junk :: .junk :: .junk :: .junk :: .junk :: .junk :: .junk :: .junk :: .junk :: .junk :: .junk :: .junk :: .junk :: .junk :: .junk :: .junk :: .junk :: .junk :: .junk :: []),[P0,P1,⟨0,25,3,[[.c (encSl 1 fM p.A),.c (vr p.B),.c (vr p.C)]],true,true⟩,⟨0,77,9,[[.c (.val (.int .i64 ((osl p.C).length:Int))),.c (.val (.int .i64 ((osl p.A).length:Int))),.c (.val (.slice none 0 0)),.own 6 zz.1,.own 5 zz.1,.own 4 zz.1,.c (.val (.int .i64 0)),.c (.val (.int .i64 bu)),.c (.val (.slice none 0 0))]],true,true⟩,⟨zz.1,3,1,encB fI zz.2.1,true,zz.2.2.2.2⟩,⟨zz.1,4,1,encB fBo zz.2.2.1,true,zz.2.2.2.2⟩,⟨zz.1,41,3,encB fR zz.2.2.2.1,true,zz.2.2.2.2⟩]⟩) (fun (zz:Nat × (List Int) × (List Bool) × (List RR) × Bool)=>zz.1 <= (osl p.A).length /\ zz.2.1 = intsN (bsTo p zz.1) /\ zz.2.2.1 = minTo p zz.1 /\ zz.2.2.2.1 = (bTo p zz.1).map rawQ /\ zz.2.2.2.2 = !decide (zz.1 = 0)) (fun (zz:Nat × (List Int) × (List Bool) × (List RR) × Bool)=>(osl p.A).length - zz.1) (0,[],[],[],false) ?hI1 (Fgt.head (show _ <= 7 from Nat.le_of_ble_eq_true rfl) [false,true,true,false,false,true,false,false,false,false,false,false,false,false,false,false,false,false,false,false,true,true,true] ?hT1 ?hH1) ?hB1
 case hT1=>first | (simp (disch:=omega) only [hds,liveT,cleanAV,cleanCell,clean1,cleanBlk_mk,reduceIte,iS,iA,iN,q0,q1,encB_nil];done) | rfl
 case hH1=>first | (simp (disch:=omega) only [hds,liveT,cleanAV,cleanCell,clean1,cleanBlk_mk,reduceIte,iS,iA,iN,q0,q1,encB_nil];done) | rfl
 ·dsimp only;exact ⟨Nat.zero_le _,rfl,rfl,rfl,rfl⟩
 rintro ⟨i,is,ms,bs,nn⟩ ⟨hi,his,hms,hbs,hnn⟩
 dsimp only at hi his hms hbs hnn
 have hisl:is.length = i:=by rw [his,intsN_length];unfold bsTo;rw [List.length_map,List.length_range]
 have hmsl:ms.length = i:=by rw [hms];unfold minTo;rw [List.length_map,List.length_range]
 have hbsl:bs.length = i:=by rw [hbs,List.length_map];unfold bTo;rw [List.length_map,List.length_range]
 by_cases him:i = (osl p.A).length
 ·have n1:nn = !ms.isEmpty:=by rw [hnn,empt_len,hmsl]
  have n2:nn = !bs.isEmpty:=by rw [hnn,empt_len,hbsl]
  have n3:nn = !is.isEmpty:=by rw [hnn,empt_len,hisl]
  refine AWp.fgt ?_ (Fgt.cells (b:=3) (els':=[[.c (.val (.int .i64 ((osl p.C).length:Int))),.c (.val (.int .i64 ((osl p.A).length:Int))),.c (.val (.slice none 0 0)),.c (encSl 3 fR (rowO bs)),.c (encSl 1 fBo (rowO ms)),.own 4 i,.c (.val (.int .i64 0)),.c (.val (.int .i64 bu)),.c (.val (.slice none 0 0))]]) [5,6] rfl rfl (.cons (.cons (.inl rfl) (.cons (.inl rfl) (.cons (.inl rfl) (.cons ((clo_ownO (c:=6) rfl (by decide) n2 (by simp)).2 0 _ _ rfl rfl) (.cons ((clo_ownO (c:=5) rfl (by decide) n1 (by simp)).2 0 _ _ rfl rfl) (.cons (.inl rfl) (.cons (.inl rfl) (.cons (.inl rfl) (.cons (.inl rfl) .nil))))))))) .nil))
  rw [freeze_from]
  simp only [List.set_cons_succ,List.set_cons_zero,fzl,freezeFrom_keep,nB,nA,Bool.false_eq_true,if_true,if_false,reduceIte]
  refine AWp.fgt ?hA2 (Fgt.head (t':=(.junk :: aI bu :: .one (.ptr 2 0 0 0) :: .junk :: .junk :: aT 0 :: .junk :: .junk :: .junk :: .junk :: .junk :: .junk :: .junk :: .junk :: .junk :: .junk :: .junk :: .junk :: .junk :: .junk :: aV p.B :: aI (osl p.B).length :: aI i :: .junk :: .junk :: .junk :: .junk :: .junk :: .junk :: .junk :: .junk :: .junk :: .junk :: .junk :: .junk :: .junk :: .junk :: .junk :: .junk :: .junk :: .junk :: .junk :: .junk :: .junk :: .junk :: .junk :: .junk :: .junk :: .junk :: .junk :: .junk :: .junk :: .junk :: .junk :: .junk :: .junk :: .junk :: .junk :: .junk :: .junk :: .junk :: .junk :: .junk :: .junk :: .junk :: .junk :: .junk :: .junk :: .junk :: .junk :: .junk :: .junk :: .junk :: .junk :: .junk :: .junk :: .junk :: .junk :: .junk :: .junk :: .junk :: .junk :: .junk :: .junk :: .junk :: .junk :: .junk :: .junk :: .junk :: .junk :: .junk :: .junk :: .junk :: .junk :: .junk :: .junk :: [])) (h':=[P0,P1,⟨0,25,3,[[.c (encSl 1 fM p.A),.c (vr p.B),.c (vr p.C)]],true,true⟩,⟨0,77,9,[[.c (.val (.int .i64 ((osl p.C).length:Int))),.c (.val (.int .i64 ((osl p.A).length:Int))),.c (.val (.slice none 0 0)),.c (encSl 3 fR (rowO bs)),.c (encSl 1 fBo (rowO ms)),.own 4 i,.c (.val (.int .i64 0)),.c (.val (.int .i64 bu)),.c (.val (.slice none 0 0))]],true,true⟩,⟨i,3,1,encB fI is,true,nn⟩]) (show _ <= 5 from Nat.le_of_ble_eq_true rfl) [false,true,true,false,false,true,false,false,false,false,false,false,false,false,false,false,false,false,false,false,true,true,true] ?hT2 ?hH2)
  case hT2=>first | (simp (disch:=omega) only [hds,liveT,cleanAV,cleanCell,clean1,cleanBlk_mk,reduceIte,iS,iA,iN,q0,q1];done) | rfl
  case hH2=>first | (simp (disch:=omega) only [hds,liveT,cleanAV,cleanCell,clean1,cleanBlk_mk,reduceIte,iS,iA,iN,q0,q1];done) | rfl
  have hbs':rowO bs = rowV (sdB p).b:=by rw [hbs,him];rfl
  have his':is = intsN (bs0P (pfOf p)):=by rw [his,him];rfl
  have hms':ms = minL p:=by rw [hms,him]
  have hib:i = (osl p.B).length:=by omega
  rw [hbs',hms',hib]
  have hnc:nn = !(intsN (bs0P (pfOf p))).isEmpty:=by rw [n3,his']
  rw [his']
  clear hbs' hbs hbsl n2 n1 n3 his hms hisl hmsl hnn
  repeat (first | (with_reducible first | refine Way.imp ?_ | refine blk_o rfl ?_) | ((with_reducible refine WayR.imp (fun K hK=>?_));simp (disch:=first | omega | (simp only [dls];omega)) only [std,reduceIte,reduceCtorEq,iT,nA,nS,nM,iA,iS,iM,iN,fU];subst hK))
  rw [l3]
  refine AWp.fgt ?_ (Fgt.phantom _ 23 1)
  refine AWp.fgt ?_ (Fgt.cellsOpen (b:=3) (els':=[[.c (.val (.int .i64 ((osl p.C).length:Int))),.c (.val (.int .i64 ((osl p.A).length:Int))),.own 5 0,.c (vr (rowV (sdB p).b)),.c (mnV (minL p)),.own 4 (osl p.A).length,.c (.val (.int .i64 0)),.c (.val (.int .i64 bu)),.c (.val (.slice none 0 0))]]) rfl (.cons (.cons (.inl rfl) (.cons (.inl rfl) (.cons (.inr ⟨rfl,5,_,rfl,rfl,rfl⟩) (.cons (.inl rfl) (.cons (.inl rfl) (.cons (.inl rfl) (.cons (.inl rfl) (.cons (.inl rfl) (.cons (.inl rfl) .nil))))))))) .nil))
  simp only [List.cons_append,List.nil_append,List.set_cons_succ,List.set_cons_zero]
  refine awp_loop (fun (zz:Nat × (List VV) × Bool)=>⟨(.junk :: aI bu :: .one (.ptr 2 0 0 0) :: .junk :: .junk :: aT 0 :: .junk :: .junk :: .junk :: .junk :: .junk :: .junk :: .junk :: .junk :: .junk :: .junk :: .junk :: .junk :: .junk :: .junk :: .junk :: .junk :: .junk :: .junk :: .junk :: .junk :: .junk :: .junk :: .junk :: .junk :: .junk :: .junk :: .junk :: .junk :: .junk :: .junk :: .junk :: .junk :: .junk :: .junk :: .junk :: .junk :: .junk :: .junk :: .junk :: .junk :: .junk :: .junk :: .junk :: .junk :: .junk :: .junk :: .junk :: .junk :: .junk :: .junk :: .junk :: .junk :: .junk :: .junk :: .junk :: .junk :: .junk :: .junk :: .junk :: .junk :: .junk :: .junk :: .junk :: .junk :: .junk :: .junk :: .junk :: .junk :: .junk :: .junk :: aI (osl p.C).length :: aI zz.1 :: .junk :: .junk :: .junk :: .junk :: .junk :: .junk :: .junk :: .junk :: .junk :: .junk :: .junk :: .junk :: .junk :: .junk :: .junk :: .junk :: .junk :: .junk :: []),[P0,P1,⟨0,25,3,[[.c (encSl 1 fM p.A),.c (vr p.B),.c (vr p.C)]],true,true⟩,⟨0,77,9,[[.c (.val (.int .i64 ((osl p.C).length:Int))),.c (.val (.int .i64 ((osl p.A).length:Int))),.own 5 zz.1,.c (vr (rowV (sdB p).b)),.c (mnV (minL p)),.own 4 (osl p.A).length,.c (.val (.int .i64 0)),.c (.val (.int .i64 bu)),.c (.val (.slice none 0 0))]],true,true⟩,⟨(osl p.A).length,3,1,encB fI (intsN (bs0P (pfOf p))),true,nn⟩,⟨zz.1,23,1,encB fM zz.2.1,true,zz.2.2⟩]⟩) (fun (zz:Nat × (List VV) × Bool)=>zz.1 <= (osl p.C).length /\ zz.2.1 = (colsTo p zz.1).map rowV /\ zz.2.2 = !zz.2.1.isEmpty) (fun (zz:Nat × (List VV) × Bool)=>(osl p.C).length - zz.1) (0,[],false) ?hI3 (Fgt.head (show _ <= 6 from Nat.le_of_ble_eq_true rfl) (false :: true :: true :: false :: false :: true :: false :: false :: false :: false :: false :: false :: false :: false :: false :: false :: false :: false :: false :: false :: false :: false :: false :: false :: false :: false :: false :: false :: false :: false :: false :: false :: false :: false :: false :: false :: false :: false :: false :: false :: false :: false :: false :: false :: false :: false :: false :: false :: false :: false :: false :: false :: false :: false :: false :: false :: false :: false :: false :: false :: false :: false :: false :: false :: false :: false :: false :: false :: false :: false :: false :: false :: false :: false :: false :: false :: true :: true :: []) ?hT3 ?hH3) ?hB3
  case hT3=>first | (simp (disch:=omega) only [hds,liveT,cleanAV,cleanCell,clean1,cleanBlk_mk,reduceIte,iS,iA,iN,q0,q1,encB_nil];done) | rfl
  case hH3=>first | (simp (disch:=omega) only [hds,liveT,cleanAV,cleanCell,clean1,cleanBlk_mk,reduceIte,iS,iA,iN,q0,q1,encB_nil];done) | rfl
  ·dsimp only;exact ⟨Nat.zero_le _,rfl,rfl⟩
  rintro ⟨k,cs,nc⟩ ⟨hk,hcs,hcn⟩
  dsimp only at hk hcs hcn
  have hcsl:cs.length = k:=by rw [hcs,List.length_map];unfold colsTo;rw [List.length_map,List.length_range]
  by_cases hkn:k = (osl p.C).length
  ·refine AWp.fgt ?_ (Fgt.cells (b:=3) (els':=[[.c (.val (.int .i64 ((osl p.C).length:Int))),.c (.val (.int .i64 ((osl p.A).length:Int))),.c (encSl 1 fM (rowO cs)),.c (vr (rowV (sdB p).b)),.c (mnV (minL p)),.own 4 (osl p.A).length,.c (.val (.int .i64 0)),.c (.val (.int .i64 bu)),.c (.val (.slice none 0 0))]]) [5] rfl rfl (.cons (.cons (.inl rfl) (.cons (.inl rfl) (.cons ((clo_ownO (c:=5) rfl (by decide) hcn (by simp)).2 0 _ _ rfl rfl) (.cons (.inl rfl) (.cons (.inl rfl) (.cons (.inl rfl) (.cons (.inl rfl) (.cons (.inl rfl) (.cons (.inl rfl) .nil))))))))) .nil))
   rw [freeze_from]
   simp only [List.set_cons_succ,List.set_cons_zero,fzl,freezeFrom_keep,nB,nA,Bool.false_eq_true,if_true,if_false,reduceIte]
   refine AWp.fgt ?hA4 (Fgt.head (t':=(.junk :: .junk :: .junk :: .junk :: .junk :: aT 0 :: .junk :: .junk :: .junk :: .junk :: .junk :: .junk :: .junk :: .junk :: .junk :: .junk :: .junk :: .junk :: .junk :: .junk :: .junk :: .junk :: .junk :: .junk :: .junk :: .junk :: .junk :: .junk :: .junk :: .junk :: .junk :: .junk :: .junk :: .junk :: .junk :: .junk :: .junk :: .junk :: .junk :: .junk :: .junk :: .junk :: .junk :: .junk :: .junk :: .junk :: .junk :: .junk :: .junk :: .junk :: .junk :: .junk :: .junk :: .junk :: .junk :: .junk :: .junk :: .junk :: .junk :: .junk :: .junk :: .junk :: .junk :: .junk :: .junk :: .junk :: .junk :: .junk :: .junk :: .junk :: .junk :: .junk :: .junk :: .junk :: .junk :: .junk :: aI (osl p.C).length :: aI k :: .junk :: .junk :: .junk :: .junk :: .junk :: .junk :: .junk :: .junk :: .junk :: .junk :: .junk :: .junk :: .junk :: .junk :: .junk :: .junk :: .junk :: .junk :: [])) (h':=[P0,P1,⟨0,25,3,[[.c (encSl 1 fM p.A),.c (vr p.B),.c (vr p.C)]],true,true⟩,⟨0,77,9,[[.c (.val (.int .i64 ((osl p.C).length:Int))),.c (.val (.int .i64 ((osl p.A).length:Int))),.c (encSl 1 fM (rowO cs)),.c (vr (rowV (sdB p).b)),.c (mnV (minL p)),.own 4 (osl p.A).length,.c (.val (.int .i64 0)),.c (.val (.int .i64 bu)),.c (.val (.slice none 0 0))]],true,true⟩,⟨(osl p.A).length,3,1,encB fI (intsN (bs0P (pfOf p))),true,nn⟩]) (show _ <= 5 from Nat.le_of_ble_eq_true rfl) (false :: false :: false :: false :: false :: true :: false :: false :: false :: false :: false :: false :: false :: false :: false :: false :: false :: false :: false :: false :: false :: false :: false :: false :: false :: false :: false :: false :: false :: false :: false :: false :: false :: false :: false :: false :: false :: false :: false :: false :: false :: false :: false :: false :: false :: false :: false :: false :: false :: false :: false :: false :: false :: false :: false :: false :: false :: false :: false :: false :: false :: false :: false :: false :: false :: false :: false :: false :: false :: false :: false :: false :: false :: false :: false :: false :: true :: true :: []) ?hT4 ?hH4)
   case hT4=>first | (simp (disch:=omega) only [hds,liveT,cleanAV,cleanCell,clean1,cleanBlk_mk,reduceIte,iS,iA,iN,q0,q1];done) | rfl
   case hH4=>first | (simp (disch:=omega) only [hds,liveT,cleanAV,cleanCell,clean1,cleanBlk_mk,reduceIte,iS,iA,iN,q0,q1];done) | rfl
   have hcs':rowO cs = colsM (sdB p):=by rw [hcs,hkn];rfl
   rw [hcs',hnc]
   repeat (first | (with_reducible first | refine Way.imp ?_ | refine blk_o rfl ?_) | ((with_reducible refine WayR.imp (fun K hK=>?_));simp (disch:=first | omega | (simp only [dls];omega)) only [std,reduceIte,reduceCtorEq,iT,nA,nS,nM,iA,iS,iM,iN,fU];subst hK))
   exact ⟨rfl,rfl⟩
  ·have hkl:k < (osl p.C).length:=by omega
   have hcol:=col_yes p k 5000 L hf hL2 hp hkl
   change PureC _ _ _ (.ret (aV (rowV (colTo p k (osl p.A).length)))) at hcol
   have hmn:(minL p).length = (osl p.A).length:=by show (List.map _ _).length = _;rw [List.length_map,List.length_range]
   have htn:=turn_O (osl p.C).length (osl p.A).length (minL p) (vr (rowV (sdB p).b)) 0 bu (.val (.slice none 0 0)) (colTo p k (osl p.A).length) L (by rw [colTo_len,hmn];exact Nat.le_refl _) (by omega) (fun q hq=>by
    unfold colTo at hq
    obtain ⟨j,hj,rfl⟩:=List.mem_map.1 hq
    exact ((hf.at j).at k).val hL) (by omega) 0 (osl p.A).length k nn nc (intsN (bs0P (pfOf p))) cs P0 P1 ⟨0,25,3,[[.c (encSl 1 fM p.A),.c (vr p.B),.c (vr p.C)]],true,true⟩ h0 h1 (fun n=>rfl)
   rw [turn_col] at htn
   have hsn:∀ r:VV,encB fM cs ++ [[Cell.c (vr r)]] = encB fM (cs ++ [r]):=fun r=>by rw [<- encB_append];rfl
   have hcn2:=colsTo_succ p k
   generalize ((List.range (osl p.A).length).map fun i=>sgnP (pfOf p) i (qAt (mAt p.A i) k)) = nw at htn hcn2
   repeat (first | (with_reducible first | refine Way.imp ?_ | refine blk_o rfl ?_) | ((with_reducible refine WayR.imp (fun K hK=>?_));simp (disch:=first | omega | (simp only [dls];omega)) only [std,reduceIte,reduceCtorEq,iT,nA,nS,nM,iA,iS,iM,iN,fU,hsn];subst hK) | refine zcA (hcol) rfl rfl rfl ?_ | (apply call_quiet (htn) rfl rfl))
   refine ⟨(k + 1,cs ++ [rowV nw],true),?hI5,?hM5,Fgt.head (show _ <= 6 from Nat.le_of_ble_eq_true rfl) (false :: true :: true :: false :: false :: true :: false :: false :: false :: false :: false :: false :: false :: false :: false :: false :: false :: false :: false :: false :: false :: false :: false :: false :: false :: false :: false :: false :: false :: false :: false :: false :: false :: false :: false :: false :: false :: false :: false :: false :: false :: false :: false :: false :: false :: false :: false :: false :: false :: false :: false :: false :: false :: false :: false :: false :: false :: false :: false :: false :: false :: false :: false :: false :: false :: false :: false :: false :: false :: false :: false :: false :: false :: false :: false :: false :: true :: true :: []) ?hT5 ?hH5⟩
   case hT5=>first | (simp (disch:=omega) only [hds,liveT,cleanAV,cleanCell,clean1,cleanBlk_mk,reduceIte,iS,iA,iN,q0,q1,List.isEmpty_cons,Bool.or_true,Bool.not_false];done) | rfl
   case hH5=>first | (simp (disch:=omega) only [hds,liveT,cleanAV,cleanCell,clean1,cleanBlk_mk,reduceIte,iS,iA,iN,q0,q1,List.isEmpty_cons,Bool.or_true,Bool.not_false];done) | rfl
   ·dsimp only
    refine ⟨by omega,by rw [hcn2,hcs,List.map_append];rfl,by cases cs <;> rfl⟩
   ·dsimp only;omega
 ·have hlt:i < (osl p.B).length:=by omega
  have hfb:=hB.2 _ (List.getElem_mem hlt)
  have hqb:qAt p.B i = (osl p.B)[i].val:=by unfold qAt;rw [rAt_in hlt]
  have hsg:=rsign_C (osl p.B)[i] (hfb.mono (by omega))
  have hsl:=sgn_low3 (osl p.B)[i]
  have hmi:=minTo_succ p i
  have hbi:=bTo_succ p i
  have hsi:=bsTo_succ p i
  have hci:(((osl p.C).length:Int)) + (i:Int) = (((osl p.C).length + i:Nat):Int):=by omega
  have hI1:∀ z:Int,encB fI is ++ [[Cell.c (.val (.int .i64 z))]] = encB fI (is ++ [z]):=fun z=>by rw [<- encB_append];rfl
  have hM1:∀ z:Bool,encB fBo ms ++ [[Cell.c (.val (.bool z))]] = encB fBo (ms ++ [z]):=fun z=>by rw [<- encB_append];rfl
  rw [hqb] at hmi hbi
  unfold sgnP at hbi
  rw [show (pfOf p).b i = (osl p.B)[i].val from hqb] at hbi
  generalize sgn (osl p.B)[i].top = z at hsg hsl
  by_cases hz:z < 0
  ·have hv:=hsl.1 hz
   have hng:=rneg_C (osl p.B)[i] (hfb.mono (by omega))
   have fn:FitsQ (-(osl p.B)[i].val) L:=(hfb.val hL).neg
   have hmk:=make_C (rawQ (-(osl p.B)[i].val)) L (fits_rawQ fn) hL2
   rw [rawQ_val] at hmk
   rw [decide_eq_true hv] at hmi
   rw [if_pos hv] at hbi
   repeat (first | (with_reducible first | refine Way.imp ?_ | refine blk_o rfl ?_) | ((with_reducible refine WayR.imp (fun K hK=>?_));simp (disch:=first | omega | (simp only [dls];omega)) only [std,reduceIte,reduceCtorEq,iT,nA,nS,nM,iA,iS,iM,iN,fU,fR,hci,hI1,hM1];subst hK) | refine zcA (hsg) rfl rfl rfl ?_ | refine zcA (hng) rfl rfl rfl ?_ | refine zcA (hmk) rfl rfl rfl ?_)
   refine ⟨(i + 1,is ++ [(((osl p.C).length + i:Nat):Int)],ms ++ [true],bs ++ [rawQ (-(osl p.B)[i].val)],true),?hI6,?hM6,Fgt.head (show _ <= 7 from Nat.le_of_ble_eq_true rfl) [false,true,true,false,false,true,false,false,false,false,false,false,false,false,false,false,false,false,false,false,true,true,true] ?hT6 ?hH6⟩
   case hT6=>first | (simp (disch:=omega) only [hds,liveT,cleanAV,cleanCell,clean1,cleanBlk_mk,reduceIte,iS,iA,iN,q0,q1,encB_snoc_row,List.isEmpty_cons,Bool.or_true,Bool.not_false];done) | rfl
   case hH6=>first | (simp (disch:=omega) only [hds,liveT,cleanAV,cleanCell,clean1,cleanBlk_mk,reduceIte,iS,iA,iN,q0,q1,encB_snoc_row,List.isEmpty_cons,Bool.or_true,Bool.not_false];done) | rfl
   ·dsimp only
    refine ⟨by omega,?_,by rw [hmi,hms],by rw [hbi,hbs,List.map_append];rfl,by simp⟩
    rw [hsi,his];unfold intsN;rw [List.map_append];rfl
   ·dsimp only;omega
  ·have hv:¬ (osl p.B)[i].val < 0:=fun h=>hz (hsl.2 h)
   have hmk:=make_C (osl p.B)[i] L hfb hL2
   rw [decide_eq_false hv] at hmi
   rw [if_neg hv] at hbi
   repeat (first | (with_reducible first | refine Way.imp ?_ | refine blk_o rfl ?_) | ((with_reducible refine WayR.imp (fun K hK=>?_));simp (disch:=first | omega | (simp only [dls];omega)) only [std,reduceIte,reduceCtorEq,iT,nA,nS,nM,iA,iS,iM,iN,fU,fR,hci,hI1,hM1];subst hK) | refine zcA (hsg) rfl rfl rfl ?_ | refine zcA (hmk) rfl rfl rfl ?_)
   refine ⟨(i + 1,is ++ [(((osl p.C).length + i:Nat):Int)],ms ++ [false],bs ++ [rawQ (osl p.B)[i].val],true),?hI7,?hM7,Fgt.head (show _ <= 7 from Nat.le_of_ble_eq_true rfl) [false,true,true,false,false,true,false,false,false,false,false,false,false,false,false,false,false,false,false,false,true,true,true] ?hT7 ?hH7⟩
   case hT7=>first | (simp (disch:=omega) only [hds,liveT,cleanAV,cleanCell,clean1,cleanBlk_mk,reduceIte,iS,iA,iN,q0,q1,encB_snoc_row,List.isEmpty_cons,Bool.or_true,Bool.not_false];done) | rfl
   case hH7=>first | (simp (disch:=omega) only [hds,liveT,cleanAV,cleanCell,clean1,cleanBlk_mk,reduceIte,iS,iA,iN,q0,q1,encB_snoc_row,List.isEmpty_cons,Bool.or_true,Bool.not_false];done) | rfl
   ·dsimp only
    refine ⟨by omega,?_,by rw [hmi,hms],by rw [hbi,hbs,List.map_append];rfl,by simp⟩
    rw [hsi,his];unfold intsN;rw [List.map_append];rfl
   ·dsimp only;omega
end Go.Proofs.Ytncgbjhojbnecaa
