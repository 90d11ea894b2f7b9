/- Walks of simplex: unit, column. -/
import Derived.Test.YtncgbjhojbnecaaA5
import Derived.Test.YtncgbjhojbnecaaB0
import Derived.Test.YtncgbjhojbnecaaMA
import Derived.Test.YtncgbjhojbnecaaMB
set_option linter.unusedSimpArgs false
set_option linter.unusedVariables false
set_option linter.unnecessarySimpa false
set_option maxRecDepth 100000
set_option maxHeartbeats 4000000
namespace Go.Proofs.Ytncgbjhojbnecaa
open Go Go.Am Go.Proofs Go.RowKit Go.Off
open Nat renaming reduceAdd -> nA,reduceSub -> nS,reduceMul -> nM,reduceBEq -> nB
open Int renaming reduceToNat -> iT,reduceAdd -> iA,reduceSub -> iS,reduceMul -> iM,reduceNeg -> iN
def colsM (S:SD):MM:=rowO (S.cols.map rowV)
def tB (S:SD) (v:Nat) (mn:CV) (bc:Cell) (st bu:Int) (wk:CV):Blk :=
 ⟨v,77,9,[[.c (.val (.int .i64 (S.n:Int))),.c (.val (.int .i64 (S.m:Int))),.c (encSl 1 fM (colsM S)),.c (vr (rowV S.b)),.c mn,bc,.c (.val (.int .i64 st)),.c (.val (.int .i64 bu)),.c wk]],true,true⟩
abbrev aT (v:Nat):AV:=.one (.ptr 3 v 0 0)
abbrev aTc (S:SD) (mn bc:CV) (st bu:Int) (wk:CV):AV:=.one (.iptr [.val (.int .i64 (S.n:Int)),.val (.int .i64 (S.m:Int)),encSl 1 fM (colsM S),vr (rowV S.b),mn,bc,.val (.int .i64 st),.val (.int .i64 bu),wk])
theorem osl_rowV (l:List Rat):osl (rowV l) = l.map rawQ:=osl_rowO _
theorem len_rowV (l:List Rat):(osl (rowV l)).length = l.length:=by rw [osl_rowV,List.length_map]
theorem unit_ints {m i:Nat} (h:i < m):rowO ((((List.replicate m (0:Int)).set i 1).map fun n:Int=>rawQ (n:Rat))) = rowV (unitL m i):=by
 unfold rowV
 congr 1
 refine List.ext_getElem (by rw [List.length_map,List.length_map,List.length_set,List.length_replicate,unitL_len]) (fun j h1 h2=>?_)
 rw [List.getElem_map,List.getElem_map,List.getElem_set]
 have hj:j < m:=by rw [List.length_map,unitL_len] at h2;exact h2
 have e:(unitL m i)[j]'(by rw [unitL_len];exact hj) = if j = i then 1 else 0:=by
  have:=unitL_at m i hj
  rw [List.getD_eq_getElem?_getD,List.getElem?_eq_getElem (by rw [unitL_len];exact hj)] at this
  exact this
 rw [e]
 by_cases c:i = j
 ·rw [if_pos c,if_pos c.symm];rfl
 ·rw [if_neg c,if_neg (fun h=>c h.symm),List.getElem_replicate];rfl
abbrev c99:CC:=(.seq (.reg [⟨some 4,none,.mv (.const (.slice none 0 0))⟩]) (.seq (.reg [⟨some 6,none,.mv (.tmp 0)⟩,⟨some 7,none,.make 3 1 8 [(.int .i64 (0))] (.tmp 6) (.tmp 6)⟩,⟨some 5,none,.mv (.tmp 7)⟩]) (.seq (.reg [⟨some 8,none,.mv (.tmp 5)⟩,⟨some 9,none,.mv (.tmp 1)⟩,⟨some 10,none,.iaddr 1 none (.tmp 8) (.tmp 9)⟩,⟨none,none,.store 1 (.tmp 10) (.const (.int .i64 (1)))⟩]) (.seq (.reg [⟨some 11,none,.mv (.tmp 5)⟩,⟨some 12,none,.callf (.func 20) [(.tmp 11)]⟩,⟨some 4,none,.mv (.tmp 12)⟩]) .ret))))
theorem cc99:ccode Try.prog [] (Try.f99.body.getD .skip) = some c99:=by kernel_rfl
theorem body99:Try.f99.body = some (Try.f99.body.getD .skip):=rfl
theorem unit_C (m i:Nat) (h:i < m) (hm:m <= 1000000):PureC Try.prog 99 [aI m,aI i] (.ret (aV (rowV (unitL m i)))):=by
 have hints:=ints_R ((List.replicate m (0:Int)).set i 1) (by rw [List.length_set,List.length_replicate];exact hm) (fun n hn=>by
  rcases List.mem_or_eq_of_mem_set hn with h1 | h1
  ·rw [(List.mem_replicate.1 h1).2];decide
  ·rw [h1];decide)
 rw [unit_ints h] at hints
 have hs1:∀ l:List Int,(encB fI l).set i [Cell.c (.val (.int .i64 1))] = encB fI (l.set i 1):=fun l=>encB_set l i 1
 have hl:(List.replicate m (0:Int)).length = m:=List.length_replicate
 have hfl:∀ x:Int,(List.map Cell.c (fI x)).length = 1:=fun x=>rfl
 have hdr:∀ x:Int,List.drop 1 (List.map Cell.c (fI x)) = []:=fun x=>rfl
 refine pureC_of (rs:=[(RV.tmp 4)]) Try.func99 (fun a w=>Try.call99 a w) body99 cc99 (by kernel_rfl) ?_
 rw [Try.ntmps99]
 simp only [frs,nA,nS]
 repeat (first | (with_reducible first | refine Way.imp ?_ | refine blk_o rfl ?_) | ((with_reducible refine WayR.imp (fun K hK=>?_));simp (disch:=first | omega | (simp only [dls];omega)) only [std,reduceIte,reduceCtorEq,iT,nA,nS,nM,iA,iS,iM,iN,fU,repI0,hl,hs1,hdr,hfl];subst hK) | (apply call_ret_w1 (hints) rfl;(case hcl=>(simp only [evs,St.ev,constAV,evl];(repeat (first | exact closeAVs_nil | (apply closeAVs_cons;(first | (refine close_own3 rfl (by decide)) | (refine close_ownO rfl (by decide) ?_;assumption) | rfl))));done));(case hu=>(simp only [evs,St.ev,constAV,evl];(repeat (first | exact used_nil | (apply used_cons;(first | (apply used_own3;rfl) | rfl))));done));(case hh=>((simp only [fzl,nB,nA,Bool.false_eq_true,if_true,if_false,reduceIte]) <;> rfl));intro bb))
 exact ⟨_,rfl,rfl⟩
structure SFits (S:SD) (L:Nat):Prop extends S.Wf where
 nb:S.n <= 5000
 mb:S.m <= 90
 colf:∀ r ∈ S.cols,∀ q ∈ r,FitsQ q L
 bf:∀ q ∈ S.b,FitsQ q L
 l1:1 <= L
 l2:L <= 20000
 l3:4 ^ S.m * (L + 1) <= 4000000
 l4:S.m * (4 ^ S.m * (L + 1) + L + 1) <= 8989000
theorem osl_colsM (S:SD):osl (colsM S) = S.cols.map rowV:=osl_rowO _
theorem colsM_at {S:SD} {k:Nat} (h:k < (osl (colsM S)).length):(osl (colsM S))[k] = rowV (S.cols.getD k []):=by
 have h':k < S.cols.length:=by rw [osl_colsM,List.length_map] at h;exact h
 have:(osl (colsM S))[k] = (S.cols.map rowV)[k]'(by rw [List.length_map];exact h'):=by congr 1;exact osl_colsM S
 rw [this,List.getElem_map,List.getD_eq_getElem?_getD,List.getElem?_eq_getElem h'];rfl
abbrev c88:CC:=(.seq (.reg [⟨some 4,none,.mv (.const (.slice none 0 0))⟩]) (.seq (.seq (.reg [⟨some 5,none,.mv (.tmp 1)⟩,⟨some 6,none,.mv (.tmp 0)⟩,⟨some 7,none,.faddr 0 (.tmp 6)⟩,⟨some 8,none,.faddr 0 (.tmp 7)⟩,⟨some 9,none,.load 1 false (.tmp 8)⟩,⟨some 10,none,.bin .geq (.tmp 5) (.tmp 9)⟩]) (.cond (.tmp 10) (.seq (.reg [⟨some 11,none,.mv (.tmp 0)⟩,⟨some 12,none,.faddr 0 (.tmp 11)⟩,⟨some 13,none,.faddr 1 (.tmp 12)⟩,⟨some 14,none,.load 1 false (.tmp 13)⟩,⟨some 15,none,.mv (.tmp 1)⟩,⟨some 16,none,.mv (.tmp 0)⟩,⟨some 17,none,.faddr 0 (.tmp 16)⟩,⟨some 18,none,.faddr 0 (.tmp 17)⟩,⟨some 19,none,.load 1 false (.tmp 18)⟩,⟨some 20,none,.bin .sub (.tmp 15) (.tmp 19)⟩,⟨some 21,none,.callf (.func 99) [(.tmp 14),(.tmp 20)]⟩,⟨some 4,none,.mv (.tmp 21)⟩]) .ret) .skip)) (.seq (.reg [⟨some 22,none,.mv (.tmp 0)⟩,⟨some 23,none,.faddr 0 (.tmp 22)⟩,⟨some 24,none,.faddr 2 (.tmp 23)⟩,⟨some 25,none,.load 1 false (.tmp 24)⟩,⟨some 26,none,.mv (.tmp 1)⟩,⟨some 27,none,.iaddr 1 none (.tmp 25) (.tmp 26)⟩,⟨some 28,none,.load 1 false (.tmp 27)⟩,⟨some 4,none,.mv (.tmp 28)⟩]) .ret)))
theorem cc88:ccode Try.prog [] (Try.f88.body.getD .skip) = some c88:=by kernel_rfl
theorem body88:Try.f88.body = some (Try.f88.body.getD .skip):=rfl
theorem column_O (S:SD) (L:Nat) (hS:SFits S L) (k:Nat) (hk:k < S.n + S.m) (v:Nat) (mn:CV) (bc:Cell) (st bu:Int) (wk:CV) (P0 P1 P2:Blk) (X:List Blk) :
  OpenC Try.prog 88 [aT v,aI k] (P0 :: P1 :: P2 :: tB S v mn bc st bu wk :: X) (aV (rowV (colL S k))) (P0 :: P1 :: P2 :: tB S v mn bc st bu wk :: X):=by
 have hnb:=hS.nb
 have hmb:=hS.mb
 have hcl:=hS.cl
 have hcols:(osl (colsM S)).length = S.n:=by rw [osl_colsM,List.length_map];exact hcl
 unfold tB
 by_cases h:S.n <= k
 ·have hu:=unit_C S.m (k - S.n) (by omega) (by omega)
  have e:colL S k = unitL S.m (k - S.n):=if_pos h
  rw [e]
  have hs:(k:Int) - (S.n:Int) = ((k - S.n:Nat):Int):=by omega
  refine openC_of (rs:=[(RV.tmp 4)]) Try.func88 (fun a w=>Try.call88 a w) body88 cc88 (by kernel_rfl) ?_
  rw [Try.ntmps88]
  simp only [frs,nA,nS]
  repeat (first | (with_reducible first | refine Way.imp ?_ | refine blk_o rfl ?_) | ((with_reducible refine WayR.imp (fun K hK=>?_));simp (disch:=first | omega | (simp only [dls];omega)) only [std,reduceIte,reduceCtorEq,iT,nA,nS,nM,iA,iS,iM,iN,fU,hs];subst hK) | refine zcA (hu) rfl rfl rfl ?_)
  exact ⟨rfl,rfl⟩
 ·have e:colL S k = S.cols.getD k []:=if_neg h
  have hk2:k < (osl (colsM S)).length:=by omega
  rw [e,<- colsM_at hk2]
  refine openC_of (rs:=[(RV.tmp 4)]) Try.func88 (fun a w=>Try.call88 a w) body88 cc88 (by kernel_rfl) ?_
  rw [Try.ntmps88]
  simp only [frs,nA,nS]
  repeat (first | (with_reducible first | refine Way.imp ?_ | refine blk_o rfl ?_) | ((with_reducible refine WayR.imp (fun K hK=>?_));simp (disch:=first | omega | (simp only [dls];omega)) only [std,reduceIte,reduceCtorEq,iT,nA,nS,nM,iA,iS,iM,iN,fU,fM];subst hK))
  exact ⟨rfl,rfl⟩
def BsL (S:SD) (bs:List Nat):Prop:=bs.length = S.m /\ ∀ j,j < bs.length -> bs.getD j 0 < S.n + S.m
theorem intsN_get {bs:List Nat} {i:Nat} (h:i < (intsN bs).length):(intsN bs)[i] = ((bs.getD i 0:Nat):Int):=by
 have h':i < bs.length:=by rw [intsN_length] at h;exact h
 have e:(intsN bs)[i] = ((bs[i]:Nat):Int):=List.getElem_map ..
 rw [e,List.getD_eq_getElem?_getD,List.getElem?_eq_getElem h'];rfl
def sqTo (S:SD) (bs:List Nat) (i:Nat):QM:=(List.range i).map fun j=>colL S (bs.getD j 0)
theorem sqTo_succ (S:SD) (bs:List Nat) (i:Nat):sqTo S bs (i + 1) = sqTo S bs i ++ [colL S (bs.getD i 0)]:=by unfold sqTo;rw [List.range_succ,List.map_append];rfl
theorem sqTo_all (S:SD) (bs:List Nat):sqTo S bs bs.length = sqL S bs:=by
 unfold sqTo sqL
 refine List.ext_getElem (by rw [List.length_map,List.length_range,List.length_map]) (fun i h1 h2=>?_)
 have h3:i < bs.length:=by rw [List.length_map] at h2;exact h2
 rw [List.getElem_map,List.getElem_range,List.getElem_map,List.getD_eq_getElem?_getD,List.getElem?_eq_getElem h3];rfl
abbrev c64_k1:CC:=(.seq (.reg [⟨some 22,none,.mv (.tmp 3)⟩,⟨some 2,none,.mv (.tmp 22)⟩]) .ret)
abbrev c64_b1:CC:=(.seq (.reg [⟨some 12,none,.bin .lss (.tmp 11) (.tmp 10)⟩]) (.seq (.cond (.tmp 12) .skip (.exit 0)) (.seq (.block 1 (.seq (.reg [⟨some 13,none,.iaddr 1 none (.tmp 9) (.tmp 11)⟩,⟨some 14,none,.load 1 false (.tmp 13)⟩,⟨some 5,none,.mv (.tmp 14)⟩]) (.reg [⟨some 15,none,.mv (.tmp 3)⟩,⟨some 16,none,.mv (.tmp 0)⟩,⟨some 17,none,.mv (.tmp 5)⟩,⟨some 18,none,.callf (.func 88) [(.tmp 16),(.tmp 17)]⟩,⟨some 19,none,.mkrow 23 1 [(.tmp 18)]⟩,⟨some 20,none,.append 23 1 24 (.tmp 15) (.tmp 19)⟩,⟨some 3,none,.mv (.tmp 20)⟩]))) (.reg [⟨some 21,none,.bin .add (.tmp 11) (.const (.int .i64 (1)))⟩,⟨some 11,none,.mv (.tmp 21)⟩]))))
abbrev c64:CC:=(.seq (.reg [⟨some 2,none,.mv (.const (.slice none 0 0))⟩]) (.seq (.reg [⟨some 3,none,.mv (.const (.slice none 0 0))⟩]) (.seq (.seq (.reg [⟨some 6,none,.mv (.tmp 0)⟩,⟨some 7,none,.faddr 0 (.tmp 6)⟩,⟨some 8,none,.faddr 5 (.tmp 7)⟩,⟨some 9,none,.load 1 false (.tmp 8)⟩,⟨some 10,none,.len false (.tmp 9)⟩,⟨some 11,none,.mv (.const (.int .i64 (0)))⟩]) (.block 0 (.loop c64_b1))) c64_k1)))
theorem cc64:ccode Try.prog [1000088] (Try.f64.body.getD .skip) = some c64:=by kernel_rfl
theorem body64:Try.f64.body = some (Try.f64.body.getD .skip):=rfl
theorem square_O (S:SD) (L:Nat) (hS:SFits S L) (bs:List Nat) (hb:BsL S bs) (v vb:Nat) (nb:Bool) (mn:CV) (st bu:Int) (wk:CV) (P0 P1 P2 R:Blk) (h0:Pad P0) (h1:Pad P1) (h2:Pad P2) (hR:Pad R) :
  OpenC Try.prog 64 [aT v] [P0,P1,P2,tB S v mn (.own 4 vb) st bu wk,⟨vb,3,1,encB fI (intsN bs),true,nb⟩,R] (aM (rowO ((sqL S bs).map rowV))) [P0,P1,P2,tB S v mn (.own 4 vb) st bu wk,⟨vb,3,1,encB fI (intsN bs),true,nb⟩,R]:=by
 have hbl:=intsN_length bs
 have hm:=hS.mb
 have hb1:=hb.1
 unfold Pad at h0 h1 h2 hR
 have hcol:=fun k hk X=>column_O S L hS k hk v mn (.own 4 vb) st bu wk P0 P1 P2 X
 unfold tB at hcol
 unfold tB
 refine openC_of (rs:=[(RV.tmp 2)]) Try.func64 (fun a w=>Try.call64 a w) body64 cc64 (by kernel_rfl) ?_
 rw [Try.ntmps64]
 simp only [frs,nA,nS]
 repeat (first | (with_reducible first | refine Way.imp ?_ | refine blk_o rfl ?_) | ((with_reducible refine WayR.imp (fun K hK=>?_));simp (disch:=first | omega | (simp only [dls];omega)) only [std,reduceIte,reduceCtorEq,iT,nA,nS,nM,iA,iS,iM,iN,fU];subst hK))
 refine AWp.fgt ?_ (Fgt.openNil (i:=3) rfl 23 1)
 simp only [List.set_cons_succ,List.set_cons_zero,List.length_nil,List.length_cons,List.nil_append,List.cons_append,nA]
 refine awp_loop (fun (zz:Nat × (List VV) × Nat × Bool)=>⟨(aT v :: .junk :: .junk :: .one (.own 6 zz.2.2.1) :: .junk :: .junk :: .junk :: .junk :: .junk :: .one (.own 4 vb) :: aI bs.length :: aI zz.1 :: .junk :: .junk :: .junk :: .junk :: .junk :: .junk :: .junk :: .junk :: .junk :: .junk :: .junk :: []),[P0,P1,P2,⟨v,77,9,[[.c (.val (.int .i64 (S.n:Int))),.c (.val (.int .i64 (S.m:Int))),.c (encSl 1 fM (colsM S)),.c (vr (rowV S.b)),.c mn,.own 4 vb,.c (.val (.int .i64 st)),.c (.val (.int .i64 bu)),.c wk]],true,true⟩,⟨vb,3,1,encB fI (intsN bs),true,nb⟩,R,⟨zz.2.2.1,23,1,encB fM zz.2.1,true,zz.2.2.2⟩]⟩) (fun (zz:Nat × (List VV) × Nat × Bool)=>zz.1 <= bs.length /\ zz.2.1 = (sqTo S bs zz.1).map rowV /\ zz.2.2.2 = !zz.2.1.isEmpty) (fun (zz:Nat × (List VV) × Nat × Bool)=>bs.length - zz.1) (0,[],0,false) ?hI1 (Fgt.head (show _ <= 7 from Nat.le_of_ble_eq_true rfl) [true,false,false,true,false,false,false,false,false,true,true,true] ?hT1 ?hH1) ?hB1
 case hT1=>first | (simp (disch:=omega) only [hds,liveT,cleanAV,cleanCell,clean1,cleanBlk_mk,reduceIte,iS,iA,iN,encB_nil,h0,h1,h2,hR,hbl];done) | rfl
 case hH1=>first | (simp (disch:=omega) only [hds,liveT,cleanAV,cleanCell,clean1,cleanBlk_mk,reduceIte,iS,iA,iN,encB_nil,h0,h1,h2,hR,hbl];done) | rfl
 ·dsimp only;exact ⟨Nat.zero_le _,rfl,rfl⟩
 rintro ⟨i,out,u,nn⟩ ⟨hi,ho,hnn⟩
 dsimp only at hi ho hnn
 by_cases him:i = bs.length
 ·refine AWp.fgt ?_ (Fgt.closeO (i:=3) rfl rfl (by decide) hnn)
  rw [freeze_from]
  simp only [List.set_cons_succ,List.set_cons_zero,fzl,freezeFrom_keep,nB,nA,Bool.false_eq_true,if_true,if_false,reduceIte]
  refine AWp.fgt ?hA2 (Fgt.head (t':=(aT v :: .junk :: .junk :: aM (rowO out) :: .junk :: .junk :: .junk :: .junk :: .junk :: .junk :: aI bs.length :: aI i :: .junk :: .junk :: .junk :: .junk :: .junk :: .junk :: .junk :: .junk :: .junk :: .junk :: .junk :: [])) (h':=[P0,P1,P2,⟨v,77,9,[[.c (.val (.int .i64 (S.n:Int))),.c (.val (.int .i64 (S.m:Int))),.c (encSl 1 fM (colsM S)),.c (vr (rowV S.b)),.c mn,.own 4 vb,.c (.val (.int .i64 st)),.c (.val (.int .i64 bu)),.c wk]],true,true⟩,⟨vb,3,1,encB fI (intsN bs),true,nb⟩,R]) (show _ <= 6 from Nat.le_of_ble_eq_true rfl) [true,false,false,true,false,false,false,false,false,false,true,true] ?hT2 ?hH2)
  case hT2=>first | (simp (disch:=omega) only [hds,liveT,cleanAV,cleanCell,clean1,cleanBlk_mk,reduceIte,iS,iA,iN,h0,h1,h2,hR];done) | rfl
  case hH2=>first | (simp (disch:=omega) only [hds,liveT,cleanAV,cleanCell,clean1,cleanBlk_mk,reduceIte,iS,iA,iN,h0,h1,h2,hR];done) | rfl
  rw [him,sqTo_all] at ho
  subst ho
  repeat (first | (with_reducible first | refine Way.imp ?_ | refine blk_o rfl ?_) | ((with_reducible refine WayR.imp (fun K hK=>?_));simp (disch:=first | omega | (simp only [dls];omega)) only [std,reduceIte,reduceCtorEq,iT,nA,nS,nM,iA,iS,iM,iN,fU];subst hK))
  exact ⟨rfl,rfl⟩
 ·have hlt:i < bs.length:=by omega
  have hlt2:i < (intsN bs).length:=by omega
  have hcc:=hcol (bs.getD i 0) (hb.2 i hlt)
  have hg:=intsN_get hlt2
  have hol:out.length = i:=by rw [ho,List.length_map];unfold sqTo;rw [List.length_map,List.length_range]
  have hsn:encB fM out ++ [[Cell.c (vr (rowV (colL S (bs.getD i 0))))]] = encB fM (out ++ [rowV (colL S (bs.getD i 0))]):=by rw [<- encB_append];rfl
  repeat (first | (with_reducible first | refine Way.imp ?_ | refine blk_o rfl ?_) | ((with_reducible refine WayR.imp (fun K hK=>?_));simp (disch:=first | omega | (simp only [dls];omega)) only [std,reduceIte,reduceCtorEq,iT,nA,nS,nM,iA,iS,iM,iN,fU,hg,fI];subst hK) | (apply call_quiet ((hcc _)) rfl rfl))
  refine ⟨(i + 1,out ++ [rowV (colL S (bs.getD i 0))],u + 1,true),?hI3,?hM3,Fgt.head (show _ <= 7 from Nat.le_of_ble_eq_true rfl) [true,false,false,true,false,false,false,false,false,true,true,true] ?hT3 ?hH3⟩
  case hT3=>first | (simp (disch:=omega) only [hds,liveT,cleanAV,cleanCell,clean1,cleanBlk_mk,reduceIte,iS,iA,iN,h0,h1,h2,hR,hsn,hbl,List.isEmpty_cons,Bool.or_true,Bool.not_false];done) | rfl
  case hH3=>first | (simp (disch:=omega) only [hds,liveT,cleanAV,cleanCell,clean1,cleanBlk_mk,reduceIte,iS,iA,iN,h0,h1,h2,hR,hsn,hbl,List.isEmpty_cons,Bool.or_true,Bool.not_false];done) | rfl
  ·dsimp only;refine ⟨by omega,by rw [ho,sqTo_succ,List.map_append];rfl,by cases out <;> rfl⟩
  ·dsimp only;omega
def mL (Q:QM):MM:=rowO (Q.map rowV)
theorem osl_mL (Q:QM):osl (mL Q) = Q.map rowV:=osl_rowO _
theorem len_mL (Q:QM):(osl (mL Q)).length = Q.length:=by rw [osl_mL,List.length_map]
theorem mAt_mL {Q:QM} {i:Nat} (h:i < Q.length):mAt (mL Q) i = rowV (Q.getD i []):=by
 unfold mAt
 rw [osl_mL]
 exact getD_map0 Q rowV i [] none h
theorem val_rowV (l:List Rat):(osl (rowV l)).map (fun r=>r.val) = l:=by rw [osl_rowV];exact map_val_raw l
theorem qM_mL (Q:QM):qM (mL Q) = Q:=by
 unfold qM
 rw [osl_mL,List.map_map]
 conv=>rhs;rw [<- List.map_id Q]
 exact List.map_congr_left (fun r _=>val_rowV r)
theorem qAt_rowV (l:List Rat) (i:Nat):qAt (rowV l) i = l.getD i 0:=qAt_rw l i
theorem rAt_rowV (l:List Rat) (i:Nat):(rAt (rowV l) i).val = l.getD i 0:=qAt_rw l i
theorem fits_rowV {l:List Rat} {n L:Nat} (hn:l.length <= n) (h:∀ q ∈ l,FitsQ q L):FitsV (rowV l) n L:=fits_rw hn h
theorem cols_mL {Q:QM} {n m:Nat} (h:Shp Q n m) (h0:n ≠ 0):cols (mL Q) = m:=by
 unfold cols
 rw [mAt_mL (by rw [h.1];omega),len_rowV]
 exact h.2 0 (by omega)
theorem rect_mL {Q:QM} {n m:Nat} (h:Shp Q n m):rectTo (mL Q) (osl (mL Q)).length = true:=by
 unfold rectTo
 rw [List.all_eq_true]
 intro i hi
 rw [List.mem_range,len_mL,h.1] at hi
 rw [mAt_mL (by rw [h.1];exact hi),len_rowV,cols_mL h (by omega),h.2 i hi]
 simp
theorem fits_mL {Q:QM} {n m k L:Nat} (h:Wf Q n m L) (hn:n <= k) (hm:m <= k):FitsM (mL Q) k L:=by
 refine ⟨by rw [len_mL,h.1];exact hn,fun v hv=>?_⟩
 rw [osl_mL] at hv
 obtain ⟨r,hr,rfl⟩:=List.mem_map.1 hv
 have:=h.2 r hr
 exact fits_rowV (by omega) this.2
theorem ok_mL {Q:QM} {n m L:Nat} (h:Wf Q n m L) (hn:n <= 200) (hm:m <= 200):okM (mL Q) = true:=ok_of (fits_mL h hn hm) (Nat.le_refl _) (rect_mL h.shp)
theorem rawV_rowV {l:List Rat} (h:l.length ≠ 0):rawV l = rowV l:=by
 cases l with
 | nil=>exact (h rfl).elim
 | cons a l=>rfl
theorem turnQ_mL {Q:QM} {n:Nat} (h:Shp Q n n):turnQ (mL Q) = turnL n Q:=by
 by_cases h0:n = 0
 ·subst h0
  obtain rfl:Q = []:=List.length_eq_zero_iff.1 h.1
  rfl
 ·unfold turnQ turnL
  rw [cols_mL h h0,len_mL,h.1]
  refine List.map_congr_left (fun k _=>?_)
  unfold colQ
  refine List.map_congr_left (fun j _=>?_)
  rw [<- eQ_qM,qM_mL]
theorem turn_rows {n:Nat} (Q:QM):((turnL n Q).map rawV) = (turnL n Q).map rowV:=by
 refine List.map_congr_left (fun r hr=>rawV_rowV ?_)
 obtain ⟨i,hi,rfl⟩:=List.mem_iff_getElem.1 hr
 have:=(shp_turnL n Q).2 i (by rw [<- (shp_turnL n Q).1];exact hi)
 rw [List.getD_eq_getElem?_getD,List.getElem?_eq_getElem hi] at this
 have h1:=(shp_turnL n Q).1
 show (turnL n Q)[i].length ≠ 0
 have e:((some (turnL n Q)[i]).getD []).length = (turnL n Q)[i].length:=rfl
 omega
theorem turn_L (Q:QM) (n L:Nat) (h:Wf Q n n L) (hn:n <= 200) (hL2:L <= 1000000):PureC Try.prog 31 [aM (mL Q)] (.ret (aM (mL (turnL n Q)))):=by
 have h1:=turn_yes (mL Q) 200 L (fits_mL h hn hn) (by decide) hL2 (ok_mL h hn hn)
 rw [turnQ_mL h.shp,turn_rows] at h1
 exact PureC.fresh_rowO h1
def valsV (b:VV):List Rat:=(osl b).map fun r=>r.val
theorem vals_rowV (l:List Rat):valsV (rowV l) = l:=val_rowV l
theorem vals_len (b:VV):(valsV b).length = (osl b).length:=List.length_map ..
theorem vals_at (b:VV) (i:Nat):(valsV b).getD i 0 = qAt b i:=by
 unfold valsV qAt rAt
 rw [List.getD_eq_getElem?_getD,List.getD_eq_getElem?_getD,List.getElem?_map]
 cases (osl b)[i]? with
 | none=>exact zR_val.symm
 | some r=>rfl
theorem vals_fits {b:VV} {n L:Nat} (h:FitsV b n L) (hL:1 <= L):∀ q ∈ valsV b,FitsQ q L:=fun q hq=>by
 unfold valsV at hq
 obtain ⟨r,hr,rfl⟩:=List.mem_map.1 hq
 exact (h.2 r hr).val hL
theorem aug_mL {Q:QM} {n:Nat} (h:Shp Q n n) (b:VV) (hb:(osl b).length = n):qM (augM (mL Q) b) = augL Q (valsV b):=by
 unfold qM augM augL
 rw [osl_rowO]
 unfold augTo
 rw [List.map_map,len_mL]
 refine List.map_congr_left (fun i hi=>?_)
 have hi':i < Q.length:=List.mem_range.1 hi
 show (osl (augV (mAt (mL Q) i) (rAt b i))).map (fun r=>r.val) = _
 unfold augV
 rw [osl_some,List.map_append,mAt_mL hi',val_rowV,vals_at]
 rfl
theorem augRed_mL {Q:QM} {n:Nat} (h:Shp Q n n) (b:VV) (hb:(osl b).length = n):augRed (mL Q) b = redTo (augL Q (valsV b)) (n + 1):=by
 unfold augRed
 rw [aug_mL h b hb]
 by_cases h0:n = 0
 ·subst h0
  obtain rfl:Q = []:=List.length_eq_zero_iff.1 h.1
  rfl
 ·rw [aug_cols _ _ (rect_mL h) (by rw [cols_mL h h0,len_mL,h.1]) (by rw [len_mL,h.1];exact h0),len_mL,h.1]
theorem sol_is {Q:QM} {n:Nat} (h:Shp Q n n) (b:VV) (hb:(osl b).length = n):solveV (mL Q) b = .tup [aV (rowV (solL Q (valsV b))),aI (if sqOk (augL Q (valsV b)) n then 0 else 8)]:=by
 have hI:=red_inv (shp_aug h (valsV b)) (n + 1) (Nat.le_refl _)
 have hle:=hI.le
 have e:solveOk (mL Q) b = sqOk (augL Q (valsV b)) n:=by
  unfold solveOk sqOk
  rw [augRed_mL h b hb,len_mL,h.1]
  congr 1
  rw [decide_eq_decide]
  omega
 unfold solveV solL
 rw [e,h.1]
 cases hq:sqOk (augL Q (valsV b)) n with
 | true =>
  rw [if_pos rfl,if_pos rfl,if_pos rfl]
  unfold solveQ
  rw [augRed_mL h b hb,len_mL,h.1]
  rfl
 | false =>
  rw [if_neg (by simp),if_neg (by simp),if_neg (by simp)]
  rfl
theorem solve_V (Q:QM) (b:VV) (n L:Nat) (h:Wf Q n n L) (hb:(osl b).length = n) (hbf:∀ r ∈ osl b,Fits r L) (hn:n <= 90) (hL:1 <= L) (hL2:L <= 20000) (hB:4 ^ n * (L + 1) <= 4000000) :
  PureC Try.prog 30 [aM (mL Q),aV b] (.ret (.tup [aV (rowV (solL Q (valsV b))),aI (if sqOk (augL Q (valsV b)) n then 0 else 8)])):=by
 have hl:(osl (mL Q)).length = n:=by rw [len_mL];exact h.1
 have:=solve_full (mL Q) b 200 L (fits_mL h (by omega) (by omega)) ⟨by omega,hbf⟩ (by decide) hL hL2 (ok_mL h (by omega) (by omega)) (by
  by_cases h0:n = 0
  ·rw [cols_zero (by omega),hl,h0]
  ·rw [cols_mL h.shp h0,hl]) (by rw [hl,hb]) (by omega) (by rw [hl];exact hB)
 rw [sol_is h.shp b hb] at this
 exact this
theorem solve_L (Q:QM) (b:List Rat) (n L:Nat) (h:Wf Q n n L) (hb:b.length = n) (hbf:∀ q ∈ b,FitsQ q L) (hn:n <= 90) (hL:1 <= L) (hL2:L <= 20000) (hB:4 ^ n * (L + 1) <= 4000000) :
  PureC Try.prog 30 [aM (mL Q),aV (rowV b)] (.ret (.tup [aV (rowV (solL Q b)),aI (if sqOk (augL Q b) n then 0 else 8)])):=by
 have:=solve_V Q (rowV b) n L h (by rw [len_rowV,hb]) (fun r hr=>by
  rw [osl_rowV] at hr
  obtain ⟨q,hq,rfl⟩:=List.mem_map.1 hr
  exact fits_rawQ (hbf q hq)) hn hL hL2 hB
 rw [vals_rowV] at this
 exact this
theorem wf_augL {Q:QM} {n L:Nat} (h:Wf Q n n L) (hL:1 <= L) {b:List Rat} (hb:b.length = n) (hbf:∀ q ∈ b,FitsQ q L):Wf (augL Q b) n (n + 1) L:=by
 refine ⟨(shp_aug h.shp b).1,fun r hr=>?_⟩
 unfold augL at hr
 obtain ⟨i,hi,rfl⟩:=List.mem_map.1 hr
 have hi':i < n:=by rw [<- h.1];exact List.mem_range.1 hi
 refine ⟨by rw [List.length_append,(h.row hi').1];rfl,fun q hq=>?_⟩
 rcases List.mem_append.1 hq with h1 | h1
 ·exact (h.row hi').2 q h1
 ·rw [List.mem_singleton.1 h1,List.getD_eq_getElem?_getD,List.getElem?_eq_getElem (by omega)]
  exact hbf _ (List.getElem_mem _)
theorem fits_sol {Q:QM} {n L:Nat} (h:Wf Q n n L) (hL:1 <= L) {b:List Rat} (hb:b.length = n) (hbf:∀ q ∈ b,FitsQ q L):∀ q ∈ solL Q b,FitsQ q (4 ^ n * (L + 1)):=by
 intro q hq
 unfold solL at hq
 split at hq
 ·obtain ⟨r,hr,rfl⟩:=List.mem_map.1 hq
  rw [h.1] at hr ⊢
  obtain ⟨h1,h2,h3⟩:=red_fits (wf_augL h hL hb hbf) hL (n + 1) (Nat.le_refl _)
  have h4:=h2.2 r hr
  have h5:n < r.length:=by rw [h4.1];omega
  rw [List.getD_eq_getElem?_getD,List.getElem?_eq_getElem h5]
  refine (h4.2 _ (List.getElem_mem _)).mono ?_
  have:4 ^ (redTo (augL Q b) (n + 1)).2.length * (L + 1) <= 4 ^ n * (L + 1):=Nat.mul_le_mul_right _ (Nat.pow_le_pow_right (by decide) h1)
  omega
 ·cases hq
theorem len_sol {Q:QM} {n:Nat} (h:Shp Q n n) (b:List Rat):(solL Q b).length <= n:=by
 unfold solL
 split
 ·rw [List.length_map,h.1]
  have:=(red_inv (shp_aug h b) (n + 1) (Nat.le_refl _)).shp.1
  omega
 ·exact Nat.zero_le _
theorem fits01 {L:Nat} (hL:1 <= L) (c:Prop) [Decidable c]:FitsQ (if c then 1 else 0) L:=by
 split
 ·exact fitsQ_one L hL
 ·exact fitsQ_zero L hL
theorem fits_col {S:SD} {L:Nat} (hS:SFits S L) (k:Nat):∀ q ∈ colL S k,FitsQ q L:=by
 intro q hq
 unfold colL at hq
 split at hq
 ·unfold unitL at hq
  obtain ⟨j,_,rfl⟩:=List.mem_map.1 hq
  exact fits01 hS.l1 _
 ·rename_i h
  have h':k < S.cols.length:=by have:=hS.cl;omega
  rw [List.getD_eq_getElem?_getD,List.getElem?_eq_getElem h'] at hq
  exact hS.colf _ (List.getElem_mem h') q hq
theorem wf_sq {S:SD} {L:Nat} (hS:SFits S L) {bs:List Nat} (hb:bs.length = S.m):Wf (sqL S bs) S.m S.m L:=by
 refine ⟨(shp_sq hS.toWf hb).1,fun r hr=>?_⟩
 unfold sqL at hr
 obtain ⟨k,_,rfl⟩:=List.mem_map.1 hr
 exact ⟨col_len hS.toWf k,fits_col hS k⟩
theorem wf_turnL {Q:QM} {n L:Nat} (h:Wf Q n n L):Wf (turnL n Q) n n L:=by
 refine ⟨(shp_turnL n Q).1,fun r hr=>?_⟩
 unfold turnL at hr
 obtain ⟨k,hk,rfl⟩:=List.mem_map.1 hr
 refine ⟨by rw [List.length_map,List.length_range],fun q hq=>?_⟩
 obtain ⟨j,hj,rfl⟩:=List.mem_map.1 hq
 exact h.at (List.mem_range.1 hj) (List.mem_range.1 hk)
abbrev c73:CC:=(.seq (.reg [⟨some 4,none,.mv (.const (.slice none 0 0))⟩]) (.seq (.reg [⟨some 8,none,.mv (.tmp 0)⟩,⟨some 9,none,.callf (.func 64) [(.tmp 8)]⟩,⟨some 10,none,.callf (.func 31) [(.tmp 9)]⟩,⟨some 11,none,.mv (.tmp 1)⟩,⟨some 12,none,.callf (.func 30) [(.tmp 10),(.tmp 11)]⟩,⟨some 7,none,.mv (.tmp 12)⟩,⟨some 13,none,.ext (.tmp 7) 0⟩,⟨some 14,none,.ext (.tmp 7) 1⟩,⟨some 5,none,.mv (.tmp 13)⟩,⟨some 6,none,.mv (.tmp 14)⟩]) (.seq (.reg [⟨some 15,none,.mv (.tmp 5)⟩,⟨some 4,none,.mv (.tmp 15)⟩]) .ret)))
theorem cc73:ccode Try.prog [1000064] (Try.f73.body.getD .skip) = some c73:=by kernel_rfl
theorem body73:Try.f73.body = some (Try.f73.body.getD .skip):=rfl
theorem solve_O (S:SD) (L:Nat) (hS:SFits S L) (bs:List Nat) (hb:BsL S bs) (b:List Rat) (hbl:b.length = S.m) (hbf:∀ q ∈ b,FitsQ q L) (v vb:Nat) (nb:Bool) (mn:CV) (st bu:Int) (wk:CV) (P0 P1 P2 R:Blk) (h0:Pad P0) (h1:Pad P1) (h2:Pad P2) (hR:Pad R) :
  OpenC Try.prog 73 [aT v,aV (rowV b)] [P0,P1,P2,tB S v mn (.own 4 vb) st bu wk,⟨vb,3,1,encB fI (intsN bs),true,nb⟩,R] (aV (rowV (solL (turnL S.m (sqL S bs)) b))) [P0,P1,P2,tB S v mn (.own 4 vb) st bu wk,⟨vb,3,1,encB fI (intsN bs),true,nb⟩,R]:=by
 have hm:=hS.mb
 have l2:=hS.l2
 have hsq:=square_O S L hS bs hb v vb nb mn st bu wk P0 P1 P2 R h0 h1 h2 hR
 change OpenC _ _ _ _ (aM (mL (sqL S bs))) _ at hsq
 have hw:=wf_sq hS hb.1
 have htn:=turn_L (sqL S bs) S.m L hw (by omega) (by omega)
 have hso:=solve_L (turnL S.m (sqL S bs)) b S.m L (wf_turnL hw) hbl hbf hm hS.l1 l2 hS.l3
 generalize (if sqOk (augL (turnL S.m (sqL S bs)) b) S.m then (0:Int) else 8) = er at hso
 unfold tB at hsq
 unfold tB
 refine openC_of (rs:=[(RV.tmp 4)]) Try.func73 (fun a w=>Try.call73 a w) body73 cc73 (by kernel_rfl) ?_
 rw [Try.ntmps73]
 simp only [frs,nA,nS]
 repeat (first | (with_reducible first | refine Way.imp ?_ | refine blk_o rfl ?_) | ((with_reducible refine WayR.imp (fun K hK=>?_));simp (disch:=first | omega | (simp only [dls];omega)) only [std,reduceIte,reduceCtorEq,iT,nA,nS,nM,iA,iS,iM,iN,fU];subst hK) | (apply call_quiet (hsq) rfl rfl) | refine zcA (htn) rfl rfl rfl ?_ | refine zcA (hso) rfl rfl rfl ?_)
 exact ⟨rfl,rfl⟩
def costTo (S:SD) (costs:List Rat) (own:Rat) (bs:List Nat) (i:Nat):List Rat:=(List.range i).map fun j=>costL S costs own (bs.getD j 0)
theorem costTo_succ (S:SD) (costs:List Rat) (own:Rat) (bs:List Nat) (i:Nat):costTo S costs own bs (i + 1) = costTo S costs own bs i ++ [costL S costs own (bs.getD i 0)]:=by unfold costTo;rw [List.range_succ,List.map_append];rfl
theorem costTo_all (S:SD) (costs:List Rat) (own:Rat) (bs:List Nat):costTo S costs own bs bs.length = bs.map (costL S costs own):=by
 unfold costTo
 refine List.ext_getElem (by rw [List.length_map,List.length_range,List.length_map]) (fun i h1 h2=>?_)
 have h3:i < bs.length:=by rw [List.length_map] at h2;exact h2
 rw [List.getElem_map,List.getElem_range,List.getElem_map,List.getD_eq_getElem?_getD,List.getElem?_eq_getElem h3];rfl
theorem rowV_at {l:List Rat} {k:Nat} (h:k < (osl (rowV l)).length):(osl (rowV l))[k] = rawQ (l.getD k 0):=by
 have h':k < l.length:=by rw [len_rowV] at h;exact h
 have:(osl (rowV l))[k] = (l.map rawQ)[k]'(by rw [List.length_map];exact h'):=by congr 1;exact osl_rowV l
 rw [this,List.getElem_map,List.getD_eq_getElem?_getD,List.getElem?_eq_getElem h'];rfl
def cR (S:SD) (C:VV) (own:Rat) (k:Nat):RR:=if S.n <= k then rawQ own else rAt C k
def cRTo (S:SD) (C:VV) (own:Rat) (bs:List Nat) (i:Nat):List RR:=(List.range i).map fun j=>cR S C own (bs.getD j 0)
theorem cRTo_succ (S:SD) (C:VV) (own:Rat) (bs:List Nat) (i:Nat):cRTo S C own bs (i + 1) = cRTo S C own bs i ++ [cR S C own (bs.getD i 0)]:=by unfold cRTo;rw [List.range_succ,List.map_append];rfl
theorem cR_val (S:SD) (C:VV) (own:Rat) (k:Nat):(cR S C own k).val = costL S (valsV C) own k:=by
 unfold cR costL
 split
 ·exact rawQ_val _
 ·rw [vals_at];rfl
theorem cRTo_vals (S:SD) (C:VV) (own:Rat) (bs:List Nat):valsV (rowO (cRTo S C own bs bs.length)) = bs.map (costL S (valsV C) own):=by
 show (osl (rowO (cRTo S C own bs bs.length))).map (fun r=>r.val) = _
 rw [osl_rowO]
 unfold cRTo
 rw [List.map_map]
 have:=costTo_all S (valsV C) own bs
 unfold costTo at this
 rw [<- this]
 exact List.map_congr_left (fun j _=>cR_val S C own _)
theorem cR_fits {S:SD} {C:VV} {own:Rat} {L:Nat} (hC:∀ r ∈ osl C,Fits r L) (ho:FitsQ own L) (k:Nat):Fits (cR S C own k) L:=by
 unfold cR
 split
 ·exact fits_rawQ ho
 ·exact FitsV.at (n:=(osl C).length) ⟨Nat.le_refl _,hC⟩ k
abbrev c74_k1:CC:=(.seq (.reg [⟨some 40,none,.mv (.tmp 0)⟩,⟨some 41,none,.callf (.func 64) [(.tmp 40)]⟩,⟨some 42,none,.mv (.tmp 7)⟩,⟨some 43,none,.callf (.func 30) [(.tmp 41),(.tmp 42)]⟩,⟨some 39,none,.mv (.tmp 43)⟩,⟨some 44,none,.ext (.tmp 39) 0⟩,⟨some 45,none,.ext (.tmp 39) 1⟩,⟨some 10,none,.mv (.tmp 44)⟩,⟨some 11,none,.mv (.tmp 45)⟩]) (.seq (.reg [⟨some 46,none,.mv (.tmp 10)⟩,⟨some 6,none,.mv (.tmp 46)⟩]) .ret))
abbrev c74_b1:CC:=(.seq (.reg [⟨some 18,none,.bin .lss (.tmp 17) (.tmp 16)⟩]) (.seq (.cond (.tmp 18) .skip (.exit 0)) (.seq (.block 1 (.seq (.reg [⟨some 19,none,.iaddr 1 none (.tmp 15) (.tmp 17)⟩,⟨some 20,none,.load 1 false (.tmp 19)⟩,⟨some 9,none,.mv (.tmp 20)⟩]) (.seq (.reg [⟨some 21,none,.mv (.tmp 9)⟩,⟨some 22,none,.mv (.tmp 0)⟩,⟨some 23,none,.faddr 0 (.tmp 22)⟩,⟨some 24,none,.faddr 0 (.tmp 23)⟩,⟨some 25,none,.load 1 false (.tmp 24)⟩,⟨some 26,none,.bin .geq (.tmp 21) (.tmp 25)⟩]) (.cond (.tmp 26) (.reg [⟨some 27,none,.mv (.tmp 7)⟩,⟨some 28,none,.load 3 true (.tmp 5)⟩,⟨some 29,none,.mkrow 41 3 [(.tmp 28)]⟩,⟨some 30,none,.append 41 3 56 (.tmp 27) (.tmp 29)⟩,⟨some 7,none,.mv (.tmp 30)⟩]) (.reg [⟨some 31,none,.mv (.tmp 7)⟩,⟨some 32,none,.mv (.tmp 1)⟩,⟨some 33,none,.mv (.tmp 9)⟩,⟨some 34,none,.iaddr 3 none (.tmp 32) (.tmp 33)⟩,⟨some 35,none,.load 3 true (.tmp 34)⟩,⟨some 36,none,.mkrow 41 3 [(.tmp 35)]⟩,⟨some 37,none,.append 41 3 56 (.tmp 31) (.tmp 36)⟩,⟨some 7,none,.mv (.tmp 37)⟩]))))) (.reg [⟨some 38,none,.bin .add (.tmp 17) (.const (.int .i64 (1)))⟩,⟨some 17,none,.mv (.tmp 38)⟩]))))
abbrev c74:CC:=(.seq (.reg [⟨some 5,none,.box 41 (.tmp 2)⟩,⟨some 6,none,.mv (.const (.slice none 0 0))⟩]) (.seq (.reg [⟨some 7,none,.mv (.const (.slice none 0 0))⟩]) (.seq (.seq (.reg [⟨some 12,none,.mv (.tmp 0)⟩,⟨some 13,none,.faddr 0 (.tmp 12)⟩,⟨some 14,none,.faddr 5 (.tmp 13)⟩,⟨some 15,none,.load 1 false (.tmp 14)⟩,⟨some 16,none,.len false (.tmp 15)⟩,⟨some 17,none,.mv (.const (.int .i64 (0)))⟩]) (.block 0 (.loop c74_b1))) c74_k1)))
theorem cc74:ccode Try.prog [1000064] (Try.f74.body.getD .skip) = some c74:=by kernel_rfl
theorem body74:Try.f74.body = some (Try.f74.body.getD .skip):=rfl
theorem prices_O (S:SD) (L:Nat) (hS:SFits S L) (bs:List Nat) (hb:BsL S bs) (C:VV) (own:Rat) (hcl:(osl C).length = S.n) (hcf:∀ r ∈ osl C,Fits r L) (hof:FitsQ own L) (v vb:Nat) (nb:Bool) (mn:CV) (st bu:Int) (wk:CV) (P0 P1 P2 R:Blk) (h0:Pad P0) (h1:Pad P1) (h2:Pad P2) (hR:Pad R) :
  OpenC Try.prog 74 [aT v,aV C,aR (rawQ own)] [P0,P1,P2,tB S v mn (.own 4 vb) st bu wk,⟨vb,3,1,encB fI (intsN bs),true,nb⟩,R] (aV (rowV (yL S (valsV C) own bs))) [P0,P1,P2,tB S v mn (.own 4 vb) st bu wk,⟨vb,3,1,encB fI (intsN bs),true,nb⟩,R]:=by
 have hm:=hS.mb
 have hn:=hS.nb
 have l2:=hS.l2
 have hbl:=intsN_length bs
 have hb1:=hb.1
 have hsq:=square_O S L hS bs hb v vb nb mn st bu wk P0 P1 P2 R h0 h1 h2 hR
 change OpenC _ _ _ _ (aM (mL (sqL S bs))) _ at hsq
 have hw:=wf_sq hS hb1
 have hcr:=cRTo_vals S C own bs
 have hso:=solve_V (sqL S bs) (rowO (cRTo S C own bs bs.length)) S.m L hw (by rw [osl_rowO];unfold cRTo;rw [List.length_map,List.length_range];exact hb1) (fun r hr=>by
  rw [osl_rowO] at hr
  unfold cRTo at hr
  obtain ⟨j,_,rfl⟩:=List.mem_map.1 hr
  exact cR_fits hcf hof _) hm hS.l1 l2 hS.l3
 rw [hcr] at hso
 generalize (if sqOk (augL (sqL S bs) (bs.map (costL S (valsV C) own))) S.m then (0:Int) else 8) = er at hso
 change PureC _ _ _ (.ret (.tup [aV (rowV (yL S (valsV C) own bs)),aI er])) at hso
 unfold Pad at h0 h1 h2 hR
 unfold tB at hsq
 unfold tB
 refine openC_of (rs:=[(RV.tmp 6)]) Try.func74 (fun a w=>Try.call74 a w) body74 cc74 (by kernel_rfl) ?_
 rw [Try.ntmps74]
 simp only [frs,nA,nS]
 repeat (first | (with_reducible first | refine Way.imp ?_ | refine blk_o rfl ?_) | ((with_reducible refine WayR.imp (fun K hK=>?_));simp (disch:=first | omega | (simp only [dls];omega)) only [std,reduceIte,reduceCtorEq,iT,nA,nS,nM,iA,iS,iM,iN,fU];subst hK))
 refine AWp.fgt ?_ (Fgt.openNil (i:=7) rfl 41 3)
 simp only [List.set_cons_succ,List.set_cons_zero,List.length_nil,List.length_cons,List.nil_append,List.cons_append,nA]
 refine awp_loop (fun (zz:Nat × (List RR) × Nat × Bool)=>⟨(aT v :: aV C :: .junk :: .junk :: .junk :: .one (.ptr 6 0 0 0) :: .junk :: .one (.own 7 zz.2.2.1) :: .junk :: .junk :: .junk :: .junk :: .junk :: .junk :: .junk :: .one (.own 4 vb) :: aI bs.length :: aI zz.1 :: .junk :: .junk :: .junk :: .junk :: .junk :: .junk :: .junk :: .junk :: .junk :: .junk :: .junk :: .junk :: .junk :: .junk :: .junk :: .junk :: .junk :: .junk :: .junk :: .junk :: .junk :: .junk :: .junk :: .junk :: .junk :: .junk :: .junk :: .junk :: .junk :: []),[P0,P1,P2,⟨v,77,9,[[.c (.val (.int .i64 (S.n:Int))),.c (.val (.int .i64 (S.m:Int))),.c (encSl 1 fM (colsM S)),.c (vr (rowV S.b)),.c mn,.own 4 vb,.c (.val (.int .i64 st)),.c (.val (.int .i64 bu)),.c wk]],true,true⟩,⟨vb,3,1,encB fI (intsN bs),true,nb⟩,R,⟨0,41,3,[[.c (.val (.bool (rawQ own).minus)),.c (nr (rawQ own).size),.c (nr (rawQ own).den)]],true,true⟩,⟨zz.2.2.1,41,3,encB fR zz.2.1,true,zz.2.2.2⟩]⟩) (fun (zz:Nat × (List RR) × Nat × Bool)=>zz.1 <= bs.length /\ zz.2.1 = cRTo S C own bs zz.1 /\ zz.2.2.2 = !zz.2.1.isEmpty) (fun (zz:Nat × (List RR) × Nat × Bool)=>bs.length - zz.1) (0,[],0,false) ?hI1 (Fgt.head (show _ <= 8 from Nat.le_of_ble_eq_true rfl) [true,true,false,false,false,true,false,true,false,false,false,false,false,false,false,true,true,true] ?hT1 ?hH1) ?hB1
 case hT1=>first | (simp (disch:=omega) only [hds,liveT,cleanAV,cleanCell,clean1,cleanBlk_mk,reduceIte,iS,iA,iN,encB_nil,h0,h1,h2,hR,hbl];done) | rfl
 case hH1=>first | (simp (disch:=omega) only [hds,liveT,cleanAV,cleanCell,clean1,cleanBlk_mk,reduceIte,iS,iA,iN,encB_nil,h0,h1,h2,hR,hbl];done) | rfl
 ·dsimp only;exact ⟨Nat.zero_le _,rfl,rfl⟩
 rintro ⟨i,out,u,nn⟩ ⟨hi,ho,hnn⟩
 dsimp only at hi ho hnn
 by_cases him:i = bs.length
 ·refine AWp.fgt ?_ (Fgt.closeO (i:=7) rfl rfl (by decide) hnn)
  rw [freeze_from]
  simp only [List.set_cons_succ,List.set_cons_zero,fzl,freezeFrom_keep,nB,nA,Bool.false_eq_true,if_true,if_false,reduceIte]
  refine AWp.fgt ?hA2 (Fgt.head (t':=(aT v :: .junk :: .junk :: .junk :: .junk :: .junk :: .junk :: aV (rowO out) :: .junk :: .junk :: .junk :: .junk :: .junk :: .junk :: .junk :: .junk :: aI bs.length :: aI i :: .junk :: .junk :: .junk :: .junk :: .junk :: .junk :: .junk :: .junk :: .junk :: .junk :: .junk :: .junk :: .junk :: .junk :: .junk :: .junk :: .junk :: .junk :: .junk :: .junk :: .junk :: .junk :: .junk :: .junk :: .junk :: .junk :: .junk :: .junk :: .junk :: [])) (h':=[P0,P1,P2,⟨v,77,9,[[.c (.val (.int .i64 (S.n:Int))),.c (.val (.int .i64 (S.m:Int))),.c (encSl 1 fM (colsM S)),.c (vr (rowV S.b)),.c mn,.own 4 vb,.c (.val (.int .i64 st)),.c (.val (.int .i64 bu)),.c wk]],true,true⟩,⟨vb,3,1,encB fI (intsN bs),true,nb⟩,R]) (show _ <= 6 from Nat.le_of_ble_eq_true rfl) [true,false,false,false,false,false,false,true,false,false,false,false,false,false,false,false,true,true] ?hT2 ?hH2)
  case hT2=>first | (simp (disch:=omega) only [hds,liveT,cleanAV,cleanCell,clean1,cleanBlk_mk,reduceIte,iS,iA,iN,h0,h1,h2,hR];done) | rfl
  case hH2=>first | (simp (disch:=omega) only [hds,liveT,cleanAV,cleanCell,clean1,cleanBlk_mk,reduceIte,iS,iA,iN,h0,h1,h2,hR];done) | rfl
  rw [him] at ho
  subst ho
  repeat (first | (with_reducible first | refine Way.imp ?_ | refine blk_o rfl ?_) | ((with_reducible refine WayR.imp (fun K hK=>?_));simp (disch:=first | omega | (simp only [dls];omega)) only [std,reduceIte,reduceCtorEq,iT,nA,nS,nM,iA,iS,iM,iN,fU];subst hK) | (apply call_quiet (hsq) rfl rfl) | refine zcA (hso) rfl rfl rfl ?_)
  exact ⟨rfl,rfl⟩
 ·have hlt:i < bs.length:=by omega
  have hlt2:i < (intsN bs).length:=by omega
  have hg:=intsN_get hlt2
  have hol:out.length = i:=by rw [ho];unfold cRTo;rw [List.length_map,List.length_range]
  have hkb:=hb.2 i hlt
  generalize hk:bs.getD i 0 = k at hg hkb
  have hnx:out ++ [cR S C own k] = cRTo S C own bs (i + 1):=by rw [cRTo_succ,<- ho,hk]
  by_cases hge:S.n <= k
  ·have hck:cR S C own k = rawQ own:=if_pos hge
   repeat (first | (with_reducible first | refine Way.imp ?_ | refine blk_o rfl ?_) | ((with_reducible refine WayR.imp (fun K hK=>?_));simp (disch:=first | omega | (simp only [dls];omega)) only [std,reduceIte,reduceCtorEq,iT,nA,nS,nM,iA,iS,iM,iN,fU,hg,fI];subst hK))
   refine ⟨(i + 1,out ++ [rawQ own],u + 1,true),?hI3,?hM3,Fgt.head (show _ <= 8 from Nat.le_of_ble_eq_true rfl) [true,true,false,false,false,true,false,true,false,false,false,false,false,false,false,true,true,true] ?hT3 ?hH3⟩
   case hT3=>first | (simp (disch:=omega) only [hds,liveT,cleanAV,cleanCell,clean1,cleanBlk_mk,reduceIte,iS,iA,iN,h0,h1,h2,hR,encB_snoc_row,hbl,List.isEmpty_cons,Bool.or_true,Bool.not_false];done) | rfl
   case hH3=>first | (simp (disch:=omega) only [hds,liveT,cleanAV,cleanCell,clean1,cleanBlk_mk,reduceIte,iS,iA,iN,h0,h1,h2,hR,encB_snoc_row,hbl,List.isEmpty_cons,Bool.or_true,Bool.not_false];done) | rfl
   ·rw [hck] at hnx;dsimp only;refine ⟨by omega,hnx,by cases out <;> rfl⟩
   ·dsimp only;omega
  ·have hck:cR S C own k = rAt C k:=if_neg hge
   have hk3:k < (osl C).length:=by omega
   rw [rAt_in hk3] at hck
   repeat (first | (with_reducible first | refine Way.imp ?_ | refine blk_o rfl ?_) | ((with_reducible refine WayR.imp (fun K hK=>?_));simp (disch:=first | omega | (simp only [dls];omega)) only [std,reduceIte,reduceCtorEq,iT,nA,nS,nM,iA,iS,iM,iN,fU,hg,fI,fR];subst hK))
   refine ⟨(i + 1,out ++ [(osl C)[k]],u + 1,true),?hI4,?hM4,Fgt.head (show _ <= 8 from Nat.le_of_ble_eq_true rfl) [true,true,false,false,false,true,false,true,false,false,false,false,false,false,false,true,true,true] ?hT4 ?hH4⟩
   case hT4=>first | (simp (disch:=omega) only [hds,liveT,cleanAV,cleanCell,clean1,cleanBlk_mk,reduceIte,iS,iA,iN,h0,h1,h2,hR,encB_snoc_row,hbl,List.isEmpty_cons,Bool.or_true,Bool.not_false];done) | rfl
   case hH4=>first | (simp (disch:=omega) only [hds,liveT,cleanAV,cleanCell,clean1,cleanBlk_mk,reduceIte,iS,iA,iN,h0,h1,h2,hR,encB_snoc_row,hbl,List.isEmpty_cons,Bool.or_true,Bool.not_false];done) | rfl
   ·rw [hck] at hnx;dsimp only;refine ⟨by omega,hnx,by cases out <;> rfl⟩
   ·dsimp only;omega
def optI:Option Nat -> Int
 | none=>-1
 | some k=>k
theorem dot_rowV (a b:List Rat):dotV (rowV a) (rowV b) = dotR a b:=by
 rw [dot_sum]
 unfold vmin dotR
 rw [len_rowV,len_rowV]
 exact sumR_congr (fun i _=>by rw [qAt_rowV,qAt_rowV])
def entB (S:SD) (costs y:List Rat) (k:Nat):Bool:=decide (costs.getD k 0 < dotR y (S.cols.getD k []))
theorem enter_is (S:SD) (costs y:List Rat):enterL S costs y = (List.range S.n).find? (entB S costs y):=rfl
theorem sgn_low' (q:Rat):(sgn (rawQ q).top <= 0) ↔ q <= 0:=by
 have h:=mkRat_lt (n:=0) (m:=(rawQ q).top) (d:=1) (e:=(rawQ q).bot) (by decide) (rawQ q).bot_ne
 rw [show mkRat 0 1 = (0:Rat) from rfl] at h
 have e:mkRat (rawQ q).top (rawQ q).bot = q:=rawQ_val q
 rw [e] at h
 have h2:q <= 0 ↔ ¬ 0 < q:=Rat.not_lt.symm
 rw [h2,h]
 unfold sgn
 split
 ·omega
 ·split <;> omega
theorem fits_dotW {a b:VV} {n L K:Nat} (ha:FitsV a n L) (hb:FitsV b n K) (hL:1 <= L) (hK:1 <= K):FitsQ (dotV a b) (n * (L + K + 1) + 1):=by
 have key:∀ k,FitsQ (dotTo a b k) (k * (L + K + 1) + 1):=fun k=>by
  induction k with
  | zero=>rw [Nat.zero_mul];exact fitsQ_zero _ (by omega)
  | succ k ih=>rw [dotTo_succ,Nat.succ_mul];exact (ih.add1 (fitsQ_mul (ha.at k) (hb.at k) hL hK)).mono (by omega)
 have h1:=ha.1
 exact (key (vmin a b)).mono (Nat.add_le_add_right (Nat.mul_le_mul_right _ (by show min _ _ <= n;omega)) _)
theorem fits_inv {q:Rat} {L:Nat} (h:FitsQ q L):FitsQ q⁻¹ L:=by
 by_cases h0:q = 0
 ·rw [h0,Rat.inv_zero,<- h0];exact h
 ·have hn:q.num ≠ 0:=fun e=>h0 (Rat.num_eq_zero.1 e)
  refine ⟨?_,?_⟩
  ·rw [Rat.num_inv,Int.natAbs_mul,Int.natAbs_sign_of_ne_zero hn,Nat.one_mul,Int.natAbs_natCast];exact h.2
  ·rw [Rat.den_inv,if_neg hn];exact h.1
abbrev c75_k1:CC:=(.seq (.reg [⟨some 6,none,.mv (.const (.int .i64 (-1)))⟩]) .ret)
abbrev c75_b1:CC:=(.seq (.reg [⟨some 15,none,.bin .lss (.tmp 14) (.tmp 13)⟩]) (.seq (.cond (.tmp 15) .skip (.exit 0)) (.seq (.block 1 (.seq (.reg [⟨some 16,none,.mv (.tmp 14)⟩,⟨some 17,none,.iaddr 1 none (.tmp 12) (.tmp 14)⟩,⟨some 18,none,.load 1 false (.tmp 17)⟩,⟨some 7,none,.mv (.tmp 16)⟩,⟨some 8,none,.mv (.tmp 18)⟩]) (.seq (.reg [⟨some 19,none,.mv (.tmp 1)⟩,⟨some 20,none,.mv (.tmp 7)⟩,⟨some 21,none,.iaddr 3 none (.tmp 19) (.tmp 20)⟩,⟨some 22,none,.load 3 true (.tmp 21)⟩,⟨some 23,none,.mv (.tmp 2)⟩,⟨some 24,none,.mv (.tmp 8)⟩,⟨some 25,none,.callf (.func 18) [(.tmp 23),(.tmp 24)]⟩,⟨some 26,none,.callf (.func 17) [(.tmp 22),(.tmp 25)]⟩,⟨some 27,none,.bin .lss (.tmp 26) (.const (.int .i64 (0)))⟩]) (.cond (.tmp 27) (.seq (.reg [⟨some 28,none,.mv (.tmp 7)⟩,⟨some 6,none,.mv (.tmp 28)⟩]) .ret) .skip)))) (.reg [⟨some 29,none,.bin .add (.tmp 14) (.const (.int .i64 (1)))⟩,⟨some 14,none,.mv (.tmp 29)⟩]))))
abbrev c75:CC:=(.seq (.reg [⟨some 6,none,.mv (.const (.int .i64 (0)))⟩]) (.seq (.seq (.reg [⟨some 9,none,.mv (.tmp 0)⟩,⟨some 10,none,.faddr 0 (.tmp 9)⟩,⟨some 11,none,.faddr 2 (.tmp 10)⟩,⟨some 12,none,.load 1 false (.tmp 11)⟩,⟨some 13,none,.len false (.tmp 12)⟩,⟨some 14,none,.mv (.const (.int .i64 (0)))⟩]) (.block 0 (.loop c75_b1))) c75_k1))
theorem cc75:ccode Try.prog [] (Try.f75.body.getD .skip) = some c75:=by kernel_rfl
theorem body75:Try.f75.body = some (Try.f75.body.getD .skip):=rfl
theorem enter_P (S:SD) (L K:Nat) (hS:SFits S L) (C:VV) (y:List Rat) (hcl:(osl C).length = S.n) (hcf:∀ r ∈ osl C,Fits r L) (hyl:y.length = S.m) (hyf:∀ q ∈ y,FitsQ q K) (hK:1 <= K) (hKL:S.m * (K + L + 1) <= 8989000) (hK2:K <= 7000000) (mn bc:CV) (st bu:Int) (wk:CV) :
  PureC Try.prog 75 [aTc S mn bc st bu wk,aV C,aV (rowV y)] (.ret (aI (optI (enterL S (valsV C) y)))):=by
 have hn:=hS.nb
 have hm:=hS.mb
 have l1:=hS.l1
 have l2:=hS.l2
 have hcols:(osl (colsM S)).length = S.n:=by rw [osl_colsM,List.length_map];exact hS.cl
 rw [enter_is]
 refine pureC_of (rs:=[(RV.tmp 6)]) Try.func75 (fun a w=>Try.call75 a w) body75 cc75 (by kernel_rfl) ?_
 rw [Try.ntmps75]
 simp only [frs,nA,nS]
 repeat (first | (with_reducible first | refine Way.imp ?_ | refine blk_o rfl ?_) | ((with_reducible refine WayR.imp (fun K hK=>?_));simp (disch:=first | omega | (simp only [dls];omega)) only [std,reduceIte,reduceCtorEq,iT,nA,nS,nM,iA,iS,iM,iN,fU];subst hK))
 refine awp_loop (fun (zz:Nat)=>⟨(aTc S mn bc st bu wk :: aV C :: aV (rowV y) :: .junk :: .junk :: .junk :: .junk :: .junk :: .junk :: .junk :: .junk :: .junk :: .one (.c (encSl 1 fM (colsM S))) :: aI S.n :: aI zz :: .junk :: .junk :: .junk :: .junk :: .junk :: .junk :: .junk :: .junk :: .junk :: .junk :: .junk :: .junk :: .junk :: .junk :: .junk :: []),[]⟩) (fun (zz:Nat)=>zz <= S.n /\ ∀ j,j < zz -> entB S (valsV C) y j = false) (fun (zz:Nat)=>S.n - zz) (0) ?hI1 (Fgt.head (Nat.le_refl _) [true,true,true,false,false,false,false,false,false,false,false,false,true,true,true] ?hT1 ?hH1) ?hB1
 case hT1=>first | (simp (disch:=omega) only [hds,liveT,cleanAV,cleanCell,clean1,cleanBlk,reduceIte,iS,iA,iN,hcols];done) | rfl
 case hH1=>first | (simp (disch:=omega) only [hds,liveT,cleanAV,cleanCell,clean1,cleanBlk,reduceIte,iS,iA,iN,hcols];done) | rfl
 ·exact ⟨Nat.zero_le _,fun j hj=>by omega⟩
 rintro i ⟨hi,hs⟩
 by_cases him:i = S.n
 ·have e:(List.range S.n).find? (entB S (valsV C) y) = none:=by
   rw [List.find?_eq_none]
   intro j hj
   rw [hs j (by rw [him];exact List.mem_range.1 hj)]
   simp
  rw [e]
  repeat (first | (with_reducible first | refine Way.imp ?_ | refine blk_o rfl ?_) | ((with_reducible refine WayR.imp (fun K hK=>?_));simp (disch:=first | omega | (simp only [dls];omega)) only [std,reduceIte,reduceCtorEq,iT,nA,nS,nM,iA,iS,iM,iN,fU];subst hK))
  exact ⟨_,rfl,rfl⟩
 ·have hlt:i < S.n:=by omega
  have hk2:i < (osl (colsM S)).length:=by omega
  have hk3:i < (osl C).length:=by omega
  have hck:=colsM_at hk2
  have hcv:(valsV C).getD i 0 = (osl C)[i].val:=by rw [vals_at];unfold qAt;rw [rAt_in hk3]
  have hcol:=hS.cm i hlt
  have hci:i < S.cols.length:=by have:=hS.cl;omega
  have hdot:=dot_W (rowV y) (rowV (S.cols.getD i [])) S.m K L (fits_rowV (by omega) hyf) (fits_rowV (by omega) (fun q hq=>by
   rw [List.getD_eq_getElem?_getD,List.getElem?_eq_getElem hci] at hq
   exact hS.colf _ (List.getElem_mem hci) q hq)) (by omega) hK l1 (by omega) (by omega) (by omega) (by omega)
  have hdf:=fits_dotW (a:=rowV y) (b:=rowV (S.cols.getD i [])) (n:=S.m) (L:=K) (K:=L) (fits_rowV (by omega) hyf) (fits_rowV (by omega) (fun q hq=>by
   rw [List.getD_eq_getElem?_getD,List.getElem?_eq_getElem hci] at hq
   exact hS.colf _ (List.getElem_mem hci) q hq)) hK l1
  rw [dot_rowV] at hdot hdf
  have hcm:=rcompare_C (osl C)[i] (rawQ (dotR y (S.cols.getD i []))) ((hcf _ (List.getElem_mem hk3)).mono (by omega)) (fits_rawQ (hdf.mono (by omega)))
  rw [rawQ_val] at hcm
  have hlt2:(cmpQ (osl C)[i].val (dotR y (S.cols.getD i [])) < 0) ↔ entB S (valsV C) y i = true:=by
   rw [cmpQ_neg];unfold entB;rw [decide_eq_true_eq,hcv]
  generalize cmpQ (osl C)[i].val (dotR y (S.cols.getD i [])) = z at hcm hlt2
  by_cases hz:z < 0
  ·have e:(List.range S.n).find? (entB S (valsV C) y) = some i:=by
    rw [List.find?_range_eq_some]
    exact ⟨hlt2.1 hz,List.mem_range.2 hlt,fun j hj=>by rw [hs j hj];rfl⟩
   rw [e]
   repeat (first | (with_reducible first | refine Way.imp ?_ | refine blk_o rfl ?_) | ((with_reducible refine WayR.imp (fun K hK=>?_));simp (disch:=first | omega | (simp only [dls];omega)) only [std,reduceIte,reduceCtorEq,iT,nA,nS,nM,iA,iS,iM,iN,fU,fM,fR,hck];subst hK) | refine zcA (hdot) rfl rfl rfl ?_ | refine zcA (hcm) rfl rfl rfl ?_)
   exact ⟨_,rfl,rfl⟩
  ·have hf:entB S (valsV C) y i = false:=by
    cases he:entB S (valsV C) y i with
    | false=>rfl
    | true=>exact absurd (hlt2.2 he) hz
   repeat (first | (with_reducible first | refine Way.imp ?_ | refine blk_o rfl ?_) | ((with_reducible refine WayR.imp (fun K hK=>?_));simp (disch:=first | omega | (simp only [dls];omega)) only [std,reduceIte,reduceCtorEq,iT,nA,nS,nM,iA,iS,iM,iN,fU,fM,fR,hck];subst hK) | refine zcA (hdot) rfl rfl rfl ?_ | refine zcA (hcm) rfl rfl rfl ?_)
   refine ⟨(i + 1),?hI2,?hM2,Fgt.head (Nat.le_refl _) [true,true,true,false,false,false,false,false,false,false,false,false,true,true,true] ?hT2 ?hH2⟩
   case hT2=>first | (simp (disch:=omega) only [hds,liveT,cleanAV,cleanCell,clean1,cleanBlk,reduceIte,iS,iA,iN];done) | rfl
   case hH2=>first | (simp (disch:=omega) only [hds,liveT,cleanAV,cleanCell,clean1,cleanBlk,reduceIte,iS,iA,iN];done) | rfl
   ·refine ⟨hlt,fun j hj=>?_⟩
    by_cases e:j = i
    ·rw [e];exact hf
    ·exact hs j (by omega)
   ·show S.n - (i + 1) < S.n - i;omega
def lvSt (o:Option (Nat × Rat)):Int × RR:=match o with
 | none=>(-1,zR)
 | some (a,q)=>(a,rawQ q)
theorem div_inv (a b:Rat):a / b = a * b⁻¹:=Rat.div_def a b
abbrev c76_k1:CC:=(.seq (.reg [⟨some 68,none,.mv (.tmp 5)⟩,⟨some 4,none,.mv (.tmp 68)⟩]) .ret)
abbrev c76_b1:CC:=(.seq (.reg [⟨some 18,none,.bin .lss (.tmp 17) (.tmp 16)⟩]) (.seq (.cond (.tmp 18) .skip (.exit 0)) (.seq (.block 1 (.seq (.reg [⟨some 19,none,.mv (.tmp 17)⟩,⟨some 20,none,.iaddr 3 none (.tmp 15) (.tmp 17)⟩,⟨some 21,none,.load 3 true (.tmp 20)⟩,⟨some 8,none,.new 41 [(.bool false),(.slice none 0 0),(.slice none 0 0)]⟩,⟨some 7,none,.mv (.tmp 19)⟩,⟨none,none,.store 3 (.tmp 8) (.tmp 21)⟩]) (.seq (.seq (.reg [⟨some 22,none,.mv (.tmp 1)⟩,⟨some 23,none,.mv (.tmp 7)⟩,⟨some 24,none,.iaddr 3 none (.tmp 22) (.tmp 23)⟩,⟨some 25,none,.load 3 true (.tmp 24)⟩,⟨some 26,none,.callf (.func 23) [(.tmp 25)]⟩,⟨some 27,none,.bin .leq (.tmp 26) (.const (.int .i64 (0)))⟩]) (.cond (.tmp 27) (.exit 1) .skip)) (.seq (.regn true [⟨some 29,none,.load 3 true (.tmp 8)⟩,⟨some 30,none,.mv (.tmp 1)⟩,⟨some 31,none,.mv (.tmp 7)⟩,⟨some 32,none,.iaddr 3 none (.tmp 30) (.tmp 31)⟩,⟨some 33,none,.load 3 true (.tmp 32)⟩,⟨some 34,none,.callf (.func 58) [(.tmp 29),(.tmp 33)]⟩,⟨some 28,none,.mv (.tmp 34)⟩,⟨some 35,none,.ext (.tmp 28) 0⟩,⟨some 36,none,.ext (.tmp 28) 1⟩,⟨some 9,none,.fill 41 [(.bool false),(.slice none 0 0),(.slice none 0 0)]⟩,⟨none,none,.store 3 (.tmp 9) (.tmp 35)⟩,⟨some 10,none,.mv (.tmp 36)⟩]) (.seq (.reg [⟨some 11,none,.mv (.const (.int .i64 (-1)))⟩]) (.seq (.seq (.reg [⟨some 37,none,.mv (.tmp 5)⟩,⟨some 38,none,.bin .geq (.tmp 37) (.const (.int .i64 (0)))⟩]) (.cond (.tmp 38) (.reg [⟨some 39,none,.load 3 true (.tmp 9)⟩,⟨some 40,none,.load 3 true (.tmp 6)⟩,⟨some 41,none,.callf (.func 17) [(.tmp 39),(.tmp 40)]⟩,⟨some 11,none,.mv (.tmp 41)⟩]) .skip)) (.seq (.reg [⟨some 42,none,.mv (.tmp 11)⟩,⟨some 43,none,.bin .lss (.tmp 42) (.const (.int .i64 (0)))⟩,⟨some 44,none,.mv (.tmp 43)⟩,⟨some 45,(some (44,false)),.mv (.tmp 11)⟩,⟨some 46,(some (44,false)),.bin .eql (.tmp 45) (.const (.int .i64 (0)))⟩,⟨some 47,(some (44,false)),.mv (.tmp 46)⟩,⟨some 48,(some (47,true)),.mv (.tmp 0)⟩,⟨some 49,(some (47,true)),.faddr 0 (.tmp 48)⟩,⟨some 50,(some (47,true)),.faddr 5 (.tmp 49)⟩,⟨some 51,(some (47,true)),.load 1 false (.tmp 50)⟩,⟨some 52,(some (47,true)),.mv (.tmp 7)⟩,⟨some 53,(some (47,true)),.iaddr 1 none (.tmp 51) (.tmp 52)⟩,⟨some 54,(some (47,true)),.load 1 false (.tmp 53)⟩,⟨some 55,(some (47,true)),.mv (.tmp 0)⟩,⟨some 56,(some (47,true)),.faddr 0 (.tmp 55)⟩,⟨some 57,(some (47,true)),.faddr 5 (.tmp 56)⟩,⟨some 58,(some (47,true)),.load 1 false (.tmp 57)⟩,⟨some 59,(some (47,true)),.mv (.tmp 5)⟩,⟨some 60,(some (47,true)),.iaddr 1 none (.tmp 58) (.tmp 59)⟩,⟨some 61,(some (47,true)),.load 1 false (.tmp 60)⟩,⟨some 62,(some (47,true)),.bin .lss (.tmp 54) (.tmp 61)⟩,⟨some 63,(some (44,false)),.pick (.tmp 47) (.tmp 62) (.const (.bool false))⟩,⟨some 64,none,.pick (.tmp 44) (.const (.bool true)) (.tmp 63)⟩]) (.cond (.tmp 64) (.reg [⟨some 65,none,.mv (.tmp 7)⟩,⟨some 66,none,.load 3 true (.tmp 9)⟩,⟨some 5,none,.mv (.tmp 65)⟩,⟨none,none,.store 3 (.tmp 6) (.tmp 66)⟩]) .skip)))))))) (.reg [⟨some 67,none,.bin .add (.tmp 17) (.const (.int .i64 (1)))⟩,⟨some 17,none,.mv (.tmp 67)⟩]))))
abbrev c76:CC:=(.seq (.reg [⟨some 4,none,.mv (.const (.int .i64 (0)))⟩]) (.seq (.reg [⟨some 5,none,.mv (.const (.int .i64 (-1)))⟩]) (.seq (.reg [⟨some 6,none,.new 41 [(.bool false),(.slice none 0 0),(.slice none 0 0)]⟩]) (.seq (.seq (.reg [⟨some 12,none,.mv (.tmp 0)⟩,⟨some 13,none,.faddr 0 (.tmp 12)⟩,⟨some 14,none,.faddr 8 (.tmp 13)⟩,⟨some 15,none,.load 1 false (.tmp 14)⟩,⟨some 16,none,.len false (.tmp 15)⟩,⟨some 17,none,.mv (.const (.int .i64 (0)))⟩]) (.block 0 (.loop c76_b1))) c76_k1))))
theorem cc76:ccode Try.prog [] (Try.f76.body.getD .skip) = some c76:=by kernel_rfl
theorem body76:Try.f76.body = some (Try.f76.body.getD .skip):=rfl
theorem leave_P (S:SD) (K:Nat) (x d:List Rat) (bs:List Nat) (hxl:x.length <= 1000) (hdl:d.length = x.length) (hbl:bs.length = x.length) (hb:∀ i,i < bs.length -> bs.getD i 0 <= 1000000) (hxf:∀ q ∈ x,FitsQ q K) (hdf:∀ q ∈ d,FitsQ q K) (hK:K <= 4000000) (mn:CV) (nb:Bool) (hnb:nb = !(intsN bs).isEmpty) (st bu:Int) :
  PureC Try.prog 76 [aTc S mn (encSl 1 fI (rowO (intsN bs))) st bu (vr (rowV x)),aV (rowV d)] (.ret (aI (optI (leaveL x d bs)))):=by
 have hrx:=len_rowV x
 have hrd:=len_rowV d
 have hib:=intsN_length bs
 have hob:osl (rowO (intsN bs)) = intsN bs:=osl_rowO _
 have hol:(osl (rowO (intsN bs))).length = bs.length:=by rw [hob,hib]
 have hend:optI (leaveL x d bs) = (lvSt (leaveTo x d bs x.length)).1:=by
  unfold leaveL
  cases leaveTo x d bs x.length with
  | none=>rfl
  | some p=>rfl
 rw [hend]
 refine pureC_of (rs:=[(RV.tmp 4)]) Try.func76 (fun a w=>Try.call76 a w) body76 cc76 (by kernel_rfl) ?_
 rw [Try.ntmps76]
 simp only [frs,nA,nS]
 repeat (first | (with_reducible first | refine Way.imp ?_ | refine blk_o rfl ?_) | ((with_reducible refine WayR.imp (fun K hK=>?_));simp (disch:=first | omega | (simp only [dls];omega)) only [std,reduceIte,reduceCtorEq,iT,nA,nS,nM,iA,iS,iM,iN,fU];subst hK))
 refine awp_loop (fun (zz:Nat × Int × RR)=>⟨(aTc S mn (encSl 1 fI (rowO (intsN bs))) st bu (vr (rowV x)) :: aV (rowV d) :: .junk :: .junk :: .junk :: aI zz.2.1 :: .one (.ptr 0 0 0 0) :: .junk :: .junk :: .junk :: .junk :: .junk :: .junk :: .junk :: .junk :: aV (rowV x) :: aI x.length :: aI zz.1 :: .junk :: .junk :: .junk :: .junk :: .junk :: .junk :: .junk :: .junk :: .junk :: .junk :: .junk :: .junk :: .junk :: .junk :: .junk :: .junk :: .junk :: .junk :: .junk :: .junk :: .junk :: .junk :: .junk :: .junk :: .junk :: .junk :: .junk :: .junk :: .junk :: .junk :: .junk :: .junk :: .junk :: .junk :: .junk :: .junk :: .junk :: .junk :: .junk :: .junk :: .junk :: .junk :: .junk :: .junk :: .junk :: .junk :: .junk :: .junk :: .junk :: .junk :: .junk :: []),[⟨0,41,3,[[.c (.val (.bool zz.2.2.minus)),.c (nr zz.2.2.size),.c (nr zz.2.2.den)]],true,true⟩]⟩) (fun (zz:Nat × Int × RR)=>zz.1 <= x.length /\ (zz.2.1,zz.2.2) = lvSt (leaveTo x d bs zz.1)) (fun (zz:Nat × Int × RR)=>x.length - zz.1) (0,-1,zR) ?hI3 (Fgt.head (Nat.zero_le 1) [true,true,false,false,false,true,true,false,false,false,false,false,false,false,false,true,true,true] ?hT3 ?hH3) ?hB3
 case hT3=>first | (simp (disch:=omega) only [hds,liveT,cleanAV,cleanCell,clean1,cleanBlk,reduceIte,iS,iA,iN,hrx];done) | rfl
 case hH3=>first | (simp (disch:=omega) only [hds,liveT,cleanAV,cleanCell,clean1,cleanBlk,reduceIte,iS,iA,iN,hrx];done) | rfl
 ·dsimp only;exact ⟨Nat.zero_le _,rfl⟩
 rintro ⟨i,w0,q⟩ ⟨hi,hs⟩
 dsimp only at hi hs
 by_cases him:i = x.length
 ·rw [him] at hs
  rw [<- hs]
  repeat (first | (with_reducible first | refine Way.imp ?_ | refine blk_o rfl ?_) | ((with_reducible refine WayR.imp (fun K hK=>?_));simp (disch:=first | omega | (simp only [dls];omega)) only [std,reduceIte,reduceCtorEq,iT,nA,nS,nM,iA,iS,iM,iN,fU];subst hK))
  exact ⟨_,rfl,rfl⟩
 ·have hlt:i < x.length:=by omega
  have hk1:i < (osl (rowV x)).length:=by omega
  have hk2:i < (osl (rowV d)).length:=by omega
  have hx1:=rowV_at hk1
  have hd1:=rowV_at hk2
  have fd:FitsQ (d.getD i 0) K:=hdf _ (by rw [List.getD_eq_getElem?_getD,List.getElem?_eq_getElem (by omega)];exact List.getElem_mem _)
  have fx:FitsQ (x.getD i 0) K:=hxf _ (by rw [List.getD_eq_getElem?_getD,List.getElem?_eq_getElem (by omega)];exact List.getElem_mem _)
  have hsg:=rsign_C (rawQ (d.getD i 0)) (fits_rawQ (fd.mono (by omega)))
  have hsl:=sgn_low' (d.getD i 0)
  generalize sgn (rawQ (d.getD i 0)).top = z at hsg hsl
  by_cases hz:z <= 0
  ·have e:leaveTo x d bs (i + 1) = leaveTo x d bs i:=if_pos (hsl.1 hz)
   repeat (first | (with_reducible first | refine Way.imp ?_ | refine blk_o rfl ?_) | ((with_reducible refine WayR.imp (fun K hK=>?_));simp (disch:=first | omega | (simp only [dls];omega)) only [std,reduceIte,reduceCtorEq,iT,nA,nS,nM,iA,iS,iM,iN,fU,fR,hx1,hd1];subst hK) | refine zcA (hsg) rfl rfl rfl ?_)
   refine ⟨(i + 1,w0,q),?hI4,?hM4,Fgt.head (Nat.zero_le 1) [true,true,false,false,false,true,true,false,false,false,false,false,false,false,false,true,true,true] ?hT4 ?hH4⟩
   case hT4=>first | (simp (disch:=omega) only [hds,liveT,cleanAV,cleanCell,clean1,cleanBlk,reduceIte,iS,iA,iN];done) | rfl
   case hH4=>first | (simp (disch:=omega) only [hds,liveT,cleanAV,cleanCell,clean1,cleanBlk,reduceIte,iS,iA,iN];done) | rfl
   ·dsimp only;rw [e];exact ⟨hlt,hs⟩
   ·dsimp only;omega
  ·have hd0:¬ d.getD i 0 <= 0:=fun h=>hz (hsl.2 h)
   have hne:(rawQ (d.getD i 0)).val ≠ 0:=fun h=>hd0 (by rw [rawQ_val] at h;rw [h];exact Rat.le_refl)
   have hdv:=rdiv_C (rawQ (x.getD i 0)) (rawQ (d.getD i 0)) (fits_rawQ (fx.mono (by omega))) (fits_rawQ (fd.mono (by omega))) hne
   rw [rawQ_val,rawQ_val,div_inv] at hdv
   have fq:FitsQ (x.getD i 0 * (d.getD i 0)⁻¹) (K + K):=fx.mul (fits_inv fd)
   cases hlv:leaveTo x d bs i with
   | none =>
    rw [hlv] at hs
    obtain ⟨rfl,rfl⟩:w0 = -1 /\ q = zR:=by injection hs with h1 h2;exact ⟨h1,h2⟩
    have e:leaveTo x d bs (i + 1) = some (i,x.getD i 0 * (d.getD i 0)⁻¹):=by
     show (if d.getD i 0 <= 0 then _ else _) = _
     rw [if_neg hd0,hlv]
    repeat (first | (with_reducible first | refine Way.imp ?_ | refine blk_o rfl ?_) | ((with_reducible refine WayR.imp (fun K hK=>?_));simp (disch:=first | omega | (simp only [dls];omega)) only [std,reduceIte,reduceCtorEq,iT,nA,nS,nM,iA,iS,iM,iN,fU,fR,hx1,hd1];subst hK) | refine zcA (hsg) rfl rfl rfl ?_ | refine zcA (hdv) rfl rfl rfl ?_)
    refine ⟨(i + 1,(i:Int),rawQ (x.getD i 0 * (d.getD i 0)⁻¹)),?hI5,?hM5,Fgt.head (Nat.zero_le 1) [true,true,false,false,false,true,true,false,false,false,false,false,false,false,false,true,true,true] ?hT5 ?hH5⟩
    case hT5=>first | (simp (disch:=omega) only [hds,liveT,cleanAV,cleanCell,clean1,cleanBlk,reduceIte,iS,iA,iN];done) | rfl
    case hH5=>first | (simp (disch:=omega) only [hds,liveT,cleanAV,cleanCell,clean1,cleanBlk,reduceIte,iS,iA,iN];done) | rfl
    ·dsimp only;rw [e];exact ⟨hlt,rfl⟩
    ·dsimp only;omega
   | some p =>
    obtain ⟨a,qq⟩:=p
    rw [hlv] at hs
    obtain ⟨rfl,rfl⟩:w0 = (a:Int) /\ q = rawQ qq:=by injection hs with h1 h2;exact ⟨h1,h2⟩
    obtain ⟨g1,g2,g3,_⟩:=leave_some hlv
    have fdd:FitsQ (d.getD a 0) K:=hdf _ (by rw [List.getD_eq_getElem?_getD,List.getElem?_eq_getElem (by omega)];exact List.getElem_mem _)
    have fxa:FitsQ (x.getD a 0) K:=hxf _ (by rw [List.getD_eq_getElem?_getD,List.getElem?_eq_getElem (by omega)];exact List.getElem_mem _)
    have fqq:FitsQ qq (K + K):=by rw [g3];exact fxa.mul (fits_inv fdd)
    have hcm:=rcompare_C (rawQ (x.getD i 0 * (d.getD i 0)⁻¹)) (rawQ qq) (fits_rawQ (fq.mono (by omega))) (fits_rawQ (fqq.mono (by omega)))
    rw [rawQ_val,rawQ_val] at hcm
    have hc1:=cmpQ_neg (x.getD i 0 * (d.getD i 0)⁻¹) qq
    have hc2:=cmpQ_pos (x.getD i 0 * (d.getD i 0)⁻¹) qq
    have hi1:i < (osl (rowO (intsN bs))).length:=by omega
    have ha1:a < (osl (rowO (intsN bs))).length:=by omega
    have hgi:(osl (rowO (intsN bs)))[i] = ((bs.getD i 0:Nat):Int):=by rw [List.getElem_of_eq hob];exact intsN_get (by omega)
    have hga:(osl (rowO (intsN bs)))[a] = ((bs.getD a 0:Nat):Int):=by rw [List.getElem_of_eq hob];exact intsN_get (by omega)
    have e:leaveTo x d bs (i + 1) = if x.getD i 0 * (d.getD i 0)⁻¹ < qq \/ x.getD i 0 * (d.getD i 0)⁻¹ = qq /\ bs.getD i 0 < bs.getD a 0 then some (i,x.getD i 0 * (d.getD i 0)⁻¹) else some (a,qq):=by
     show (if d.getD i 0 <= 0 then _ else _) = _
     rw [if_neg hd0,hlv]
    generalize hw:x.getD i 0 * (d.getD i 0)⁻¹ = w at *
    generalize cmpQ w qq = y at hcm hc1 hc2
    by_cases y1:y < 0
    ·rw [if_pos (.inl (hc1.1 y1))] at e
     repeat (first | (with_reducible first | refine Way.imp ?_ | refine blk_o rfl ?_) | ((with_reducible refine WayR.imp (fun K hK=>?_));simp (disch:=first | omega | (simp only [dls];omega)) only [std,reduceIte,reduceCtorEq,iT,nA,nS,nM,iA,iS,iM,iN,fU,fR,fI,hx1,hd1,hgi,hga];subst hK) | refine zcA (hsg) rfl rfl rfl ?_ | refine zcA (hdv) rfl rfl rfl ?_ | refine zcA (hcm) rfl rfl rfl ?_)
     refine ⟨(i + 1,(i:Int),rawQ w),?hI6,?hM6,Fgt.head (Nat.zero_le 1) [true,true,false,false,false,true,true,false,false,false,false,false,false,false,false,true,true,true] ?hT6 ?hH6⟩
     case hT6=>first | (simp (disch:=omega) only [hds,liveT,cleanAV,cleanCell,clean1,cleanBlk,reduceIte,iS,iA,iN];done) | rfl
     case hH6=>first | (simp (disch:=omega) only [hds,liveT,cleanAV,cleanCell,clean1,cleanBlk,reduceIte,iS,iA,iN];done) | rfl
     ·dsimp only;rw [e];exact ⟨hlt,rfl⟩
     ·dsimp only;omega
    ·by_cases y2:y = 0
     ·have hwq:w = qq:=by
       have h1:¬ w < qq:=fun h=>y1 (hc1.2 h)
       have h2:¬ qq < w:=fun h=>by have:=hc2.2 h;omega
       grind
      by_cases y3:bs.getD i 0 < bs.getD a 0
      ·rw [if_pos (.inr ⟨hwq,y3⟩)] at e
       repeat (first | (with_reducible first | refine Way.imp ?_ | refine blk_o rfl ?_) | ((with_reducible refine WayR.imp (fun K hK=>?_));simp (disch:=first | omega | (simp only [dls];omega)) only [std,reduceIte,reduceCtorEq,iT,nA,nS,nM,iA,iS,iM,iN,fU,fR,fI,hx1,hd1,hgi,hga];subst hK) | refine zcA (hsg) rfl rfl rfl ?_ | refine zcA (hdv) rfl rfl rfl ?_ | refine zcA (hcm) rfl rfl rfl ?_)
       refine ⟨(i + 1,(i:Int),rawQ w),?hI7,?hM7,Fgt.head (Nat.zero_le 1) [true,true,false,false,false,true,true,false,false,false,false,false,false,false,false,true,true,true] ?hT7 ?hH7⟩
       case hT7=>first | (simp (disch:=omega) only [hds,liveT,cleanAV,cleanCell,clean1,cleanBlk,reduceIte,iS,iA,iN];done) | rfl
       case hH7=>first | (simp (disch:=omega) only [hds,liveT,cleanAV,cleanCell,clean1,cleanBlk,reduceIte,iS,iA,iN];done) | rfl
       ·dsimp only;rw [e];exact ⟨hlt,rfl⟩
       ·dsimp only;omega
      ·rw [if_neg (fun h=>by rcases h with h | h;exact y1 (hc1.2 h);exact y3 h.2)] at e
       repeat (first | (with_reducible first | refine Way.imp ?_ | refine blk_o rfl ?_) | ((with_reducible refine WayR.imp (fun K hK=>?_));simp (disch:=first | omega | (simp only [dls];omega)) only [std,reduceIte,reduceCtorEq,iT,nA,nS,nM,iA,iS,iM,iN,fU,fR,fI,hx1,hd1,hgi,hga];subst hK) | refine zcA (hsg) rfl rfl rfl ?_ | refine zcA (hdv) rfl rfl rfl ?_ | refine zcA (hcm) rfl rfl rfl ?_)
       refine ⟨(i + 1,(a:Int),rawQ qq),?hI8,?hM8,Fgt.head (Nat.zero_le 1) [true,true,false,false,false,true,true,false,false,false,false,false,false,false,false,true,true,true] ?hT8 ?hH8⟩
       case hT8=>first | (simp (disch:=omega) only [hds,liveT,cleanAV,cleanCell,clean1,cleanBlk,reduceIte,iS,iA,iN];done) | rfl
       case hH8=>first | (simp (disch:=omega) only [hds,liveT,cleanAV,cleanCell,clean1,cleanBlk,reduceIte,iS,iA,iN];done) | rfl
       ·dsimp only;rw [e];exact ⟨hlt,rfl⟩
       ·dsimp only;omega
     ·rw [if_neg (fun h=>by
       rcases h with h | h
       ·exact y1 (hc1.2 h)
       ·refine y2 ?_
        have h1:¬ y < 0:=y1
        have h2:¬ 0 < y:=fun hp=>by have:=hc2.1 hp;rw [h.1] at this;exact absurd this (by grind)
        omega)] at e
      repeat (first | (with_reducible first | refine Way.imp ?_ | refine blk_o rfl ?_) | ((with_reducible refine WayR.imp (fun K hK=>?_));simp (disch:=first | omega | (simp only [dls];omega)) only [std,reduceIte,reduceCtorEq,iT,nA,nS,nM,iA,iS,iM,iN,fU,fR,fI,hx1,hd1,hgi,hga];subst hK) | refine zcA (hsg) rfl rfl rfl ?_ | refine zcA (hdv) rfl rfl rfl ?_ | refine zcA (hcm) rfl rfl rfl ?_)
      refine ⟨(i + 1,(a:Int),rawQ qq),?hI9,?hM9,Fgt.head (Nat.zero_le 1) [true,true,false,false,false,true,true,false,false,false,false,false,false,false,false,true,true,true] ?hT9 ?hH9⟩
      case hT9=>first | (simp (disch:=omega) only [hds,liveT,cleanAV,cleanCell,clean1,cleanBlk,reduceIte,iS,iA,iN];done) | rfl
      case hH9=>first | (simp (disch:=omega) only [hds,liveT,cleanAV,cleanCell,clean1,cleanBlk,reduceIte,iS,iA,iN];done) | rfl
      ·dsimp only;rw [e];exact ⟨hlt,rfl⟩
      ·dsimp only;omega
theorem close_T {h:List Blk} {S:SD} {v vb:Nat} {nb live lb:Bool} {mn wk:CV} {st bu:Int} {bs:List Nat} (h3:h[3]? = some ⟨v,77,9,[[.c (.val (.int .i64 (S.n:Int))),.c (.val (.int .i64 (S.m:Int))),.c (encSl 1 fM (colsM S)),.c (vr (rowV S.b)),.c mn,.own 4 vb,.c (.val (.int .i64 st)),.c (.val (.int .i64 bu)),.c wk]],live,true⟩) (h4:h[4]? = some ⟨vb,3,1,encB fI (intsN bs),lb,nb⟩) (hn:nb = !(intsN bs).isEmpty) :
  closeAV h 3 (aT v) = some (aTc S mn (encSl 1 fI (rowO (intsN bs))) st bu wk):=by
 have e1:=closeCV_ownO (n:=2) h4 (by decide) hn
 have e0:∀ x,closeCV h 3 (.c x) = some x:=fun x=>rfl
 simp only [closeAV,closeFn,closeCell,h3,if_true,List.getElem?_cons_zero,List.drop_zero,List.mapM_cons,List.mapM_nil,e0,e1,Option.bind_eq_bind,Option.bind_some,Option.pure_def,Option.map_some]
theorem runL_fin {S:SD} {costs:List Rat} {own:Rat} {bs:List Nat} {k:Option Nat} {d:List Rat} (hs:stepL S costs own bs = .fin k d) (rem:Nat):runL S costs own rem bs = ⟨false,yL S costs own bs,k,d,bs,rem⟩:=by
 cases rem <;> unfold runL <;> rw [hs]
theorem runL_go0 {S:SD} {costs:List Rat} {own:Rat} {bs:List Nat} {k a:Nat} (hs:stepL S costs own bs = .go k a):runL S costs own 0 bs = ⟨true,[],some k,[],bs,0⟩:=by
 unfold runL;rw [hs]
theorem runL_go {S:SD} {costs:List Rat} {own:Rat} {bs:List Nat} {k a:Nat} (hs:stepL S costs own bs = .go k a) (rem:Nat):runL S costs own (rem + 1) bs = runL S costs own rem (bs.set a k):=by
 show (match stepL S costs own bs with | .fin k d=>_ | .go k a=>_) = _
 rw [hs]
theorem intsN_set (bs:List Nat) (a k:Nat):intsN (bs.set a k) = (intsN bs).set a (k:Int):=by unfold intsN;rw [List.map_set]
theorem bsl_of {S:SD} {bs:List Nat} (h:BOk S bs):BsL S bs:=⟨h.len,fun j hj=>h.lt j (by rw [<- h.len];exact hj)⟩
abbrev c40_b1:CC:=(.block 1 (.seq (.reg [⟨some 11,none,.mv (.tmp 0)⟩,⟨some 12,none,.mv (.tmp 0)⟩,⟨some 13,none,.mv (.tmp 0)⟩,⟨some 14,none,.faddr 0 (.tmp 13)⟩,⟨some 15,none,.faddr 3 (.tmp 14)⟩,⟨some 16,none,.load 1 false (.tmp 15)⟩,⟨some 17,none,.callf (.func 73) [(.tmp 12),(.tmp 16)]⟩,⟨some 18,none,.faddr 0 (.tmp 11)⟩,⟨some 19,none,.faddr 8 (.tmp 18)⟩,⟨none,none,.store 1 (.tmp 19) (.tmp 17)⟩]) (.seq (.reg [⟨some 20,none,.mv (.tmp 0)⟩,⟨some 21,none,.mv (.tmp 1)⟩,⟨some 22,none,.load 3 true (.tmp 5)⟩,⟨some 23,none,.callf (.func 74) [(.tmp 20),(.tmp 21),(.tmp 22)]⟩,⟨some 6,none,.mv (.tmp 23)⟩]) (.seq (.reg [⟨some 24,none,.mv (.tmp 0)⟩,⟨some 25,none,.mv (.tmp 1)⟩,⟨some 26,none,.mv (.tmp 6)⟩,⟨some 27,none,.callf (.func 75) [(.tmp 24),(.tmp 25),(.tmp 26)]⟩,⟨some 7,none,.mv (.tmp 27)⟩]) (.seq (.seq (.reg [⟨some 28,none,.mv (.tmp 7)⟩,⟨some 29,none,.bin .lss (.tmp 28) (.const (.int .i64 (0)))⟩]) (.cond (.tmp 29) (.seq (.reg [⟨some 30,none,.mv (.tmp 6)⟩,⟨some 31,none,.mv (.tmp 7)⟩,⟨some 6,none,.mv (.tmp 30)⟩,⟨some 7,none,.mv (.tmp 31)⟩,⟨some 8,none,.mv (.const (.slice none 0 0))⟩,⟨some 9,none,.mv (.const (.int .i64 (0)))⟩]) .ret) .skip)) (.seq (.reg [⟨some 32,none,.mv (.tmp 0)⟩,⟨some 33,none,.mv (.tmp 0)⟩,⟨some 34,none,.faddr 0 (.tmp 33)⟩,⟨some 35,none,.faddr 2 (.tmp 34)⟩,⟨some 36,none,.load 1 false (.tmp 35)⟩,⟨some 37,none,.mv (.tmp 7)⟩,⟨some 38,none,.iaddr 1 none (.tmp 36) (.tmp 37)⟩,⟨some 39,none,.load 1 false (.tmp 38)⟩,⟨some 40,none,.callf (.func 73) [(.tmp 32),(.tmp 39)]⟩,⟨some 8,none,.mv (.tmp 40)⟩]) (.seq (.reg [⟨some 41,none,.mv (.tmp 0)⟩,⟨some 42,none,.mv (.tmp 8)⟩,⟨some 43,none,.callf (.func 76) [(.tmp 41),(.tmp 42)]⟩,⟨some 10,none,.mv (.tmp 43)⟩]) (.seq (.block 2 (.seq (.reg [⟨some 45,none,.mv (.tmp 10)⟩,⟨some 46,none,.bin .lss (.tmp 45) (.const (.int .i64 (0)))⟩,⟨some 44,none,.mv (.tmp 46)⟩]) (.cond (.tmp 44) (.seq (.reg [⟨some 47,none,.mv (.tmp 6)⟩,⟨some 48,none,.mv (.tmp 7)⟩,⟨some 49,none,.mv (.tmp 8)⟩,⟨some 6,none,.mv (.tmp 47)⟩,⟨some 7,none,.mv (.tmp 48)⟩,⟨some 8,none,.mv (.tmp 49)⟩,⟨some 9,none,.mv (.const (.int .i64 (0)))⟩]) .ret) (.seq (.reg [⟨some 51,none,.mv (.tmp 0)⟩,⟨some 52,none,.faddr 0 (.tmp 51)⟩,⟨some 53,none,.faddr 6 (.tmp 52)⟩,⟨some 54,none,.load 1 false (.tmp 53)⟩,⟨some 55,none,.mv (.tmp 0)⟩,⟨some 56,none,.faddr 0 (.tmp 55)⟩,⟨some 57,none,.faddr 7 (.tmp 56)⟩,⟨some 58,none,.load 1 false (.tmp 57)⟩,⟨some 59,none,.bin .geq (.tmp 54) (.tmp 58)⟩,⟨some 50,none,.mv (.tmp 59)⟩]) (.cond (.tmp 50) (.seq (.reg [⟨some 60,none,.mv (.tmp 7)⟩,⟨some 6,none,.mv (.const (.slice none 0 0))⟩,⟨some 7,none,.mv (.tmp 60)⟩,⟨some 8,none,.mv (.const (.slice none 0 0))⟩,⟨some 9,none,.mv (.const (.int .i64 (10)))⟩]) .ret) .skip))))) (.seq (.reg [⟨some 61,none,.mv (.tmp 0)⟩,⟨some 62,none,.faddr 0 (.tmp 61)⟩,⟨some 63,none,.faddr 5 (.tmp 62)⟩,⟨some 64,none,.load 1 false (.tmp 63)⟩,⟨some 65,none,.mv (.tmp 10)⟩,⟨some 66,none,.mv (.tmp 7)⟩,⟨some 67,none,.iaddr 1 none (.tmp 64) (.tmp 65)⟩,⟨none,none,.store 1 (.tmp 67) (.tmp 66)⟩]) (.reg [⟨some 68,none,.mv (.tmp 0)⟩,⟨some 69,none,.faddr 0 (.tmp 68)⟩,⟨some 70,none,.faddr 6 (.tmp 69)⟩,⟨some 71,none,.load 1 false (.tmp 70)⟩,⟨some 72,none,.bin .add (.tmp 71) (.const (.int .i64 (1)))⟩,⟨some 73,none,.faddr 0 (.tmp 68)⟩,⟨some 74,none,.faddr 6 (.tmp 73)⟩,⟨none,none,.store 1 (.tmp 74) (.tmp 72)⟩]))))))))))
abbrev c40:CC:=(.seq (.reg [⟨some 5,none,.box 41 (.tmp 2)⟩,⟨some 6,none,.mv (.const (.slice none 0 0))⟩,⟨some 7,none,.mv (.const (.int .i64 (0)))⟩,⟨some 8,none,.mv (.const (.slice none 0 0))⟩,⟨some 9,none,.mv (.const (.int .i64 (0)))⟩]) (.block 0 (.loop c40_b1)))
theorem cc40:ccode Try.prog [1000073,1000074] (Try.f40.body.getD .skip) = some c40:=by kernel_rfl
theorem body40:Try.f40.body = some (Try.f40.body.getD .skip):=rfl
theorem run_O (S:SD) (L:Nat) (hS:SFits S L) (C:VV) (own:Rat) (hcl:(osl C).length = S.n) (hcf:∀ r ∈ osl C,Fits r L) (hof:FitsQ own L) (bu:Int) (hbu:bu <= 9223372036854775807) (rem:Nat) (hrem:(rem:Int) <= bu) (bs:List Nat) (hb:COk S bs) (v vb:Nat) (nb:Bool) (hnb:nb = !(intsN bs).isEmpty) (mn:CV) (wk:CV) (P0 P1 P2 R:Blk) (h0:Pad P0) (h1:Pad P1) (h2:Pad P2) (hR:Pad R) (O:RO) (hO:runL S (valsV C) own rem bs = O) :
  OpenC Try.prog 40 [aT v,aV C,aR (rawQ own)] [P0,P1,P2,tB S v mn (.own 4 vb) (bu - (rem:Int)) bu wk,⟨vb,3,1,encB fI (intsN bs),true,nb⟩,R]
   (.tup [aV (rowV O.y),aI (optI O.k),aV (rowV O.d),aI (if O.err then 10 else 0)])
   [P0,P1,P2,tB S v mn (.own 4 vb) (bu - (O.rem:Int)) bu (vr (rowV (xL S O.bs))),⟨vb,3,1,encB fI (intsN O.bs),true,nb⟩,R]:=by
 have hm:=hS.mb
 have hn:=hS.nb
 have l1:=hS.l1
 have l2:=hS.l2
 have l3:=hS.l3
 have l4:=hS.l4
 have hK1:1 <= 4 ^ S.m * (L + 1):=Nat.mul_pos (Nat.pow_pos (by decide)) (by omega)
 have hcols:(osl (colsM S)).length = S.n:=by rw [osl_colsM,List.length_map];exact hS.cl
 have q0:=h0
 have q1:=h1
 have q2:=h2
 have qR:=hR
 unfold Pad at q0 q1 q2 qR
 unfold tB
 refine openC_of (rs:=[(RV.tmp 6),(RV.tmp 7),(RV.tmp 8),(RV.tmp 9)]) Try.func40 (fun a w=>Try.call40 a w) body40 cc40 (by kernel_rfl) ?_
 rw [Try.ntmps40]
 simp only [frs,nA,nS]
 repeat (first | (with_reducible first | refine Way.imp ?_ | refine blk_o rfl ?_) | ((with_reducible refine WayR.imp (fun K hK=>?_));simp (disch:=first | omega | (simp only [dls];omega)) only [std,reduceIte,reduceCtorEq,iT,nA,nS,nM,iA,iS,iM,iN,fU];subst hK))
 refine AWp.fgt ?_ (Fgt.closeP (i:=5) (cs:=fR (rawQ own)) rfl rfl)
 rw [freeze_from]
 simp only [List.set_cons_succ,List.set_cons_zero,fzl,freezeFrom_keep,nB,nA,Bool.false_eq_true,if_true,if_false,reduceIte]
 refine AWp.fgt ?hA1 (Fgt.head (t':=(aT v :: aV C :: .junk :: .junk :: .junk :: .one (.iptr (fR (rawQ own))) :: .junk :: .junk :: .junk :: .junk :: .junk :: .junk :: .junk :: .junk :: .junk :: .junk :: .junk :: .junk :: .junk :: .junk :: .junk :: .junk :: .junk :: .junk :: .junk :: .junk :: .junk :: .junk :: .junk :: .junk :: .junk :: .junk :: .junk :: .junk :: .junk :: .junk :: .junk :: .junk :: .junk :: .junk :: .junk :: .junk :: .junk :: .junk :: .junk :: .junk :: .junk :: .junk :: .junk :: .junk :: .junk :: .junk :: .junk :: .junk :: .junk :: .junk :: .junk :: .junk :: .junk :: .junk :: .junk :: .junk :: .junk :: .junk :: .junk :: .junk :: .junk :: .junk :: .junk :: .junk :: .junk :: .junk :: .junk :: .junk :: .junk :: [])) (h':=[P0,P1,P2,⟨v,77,9,[[.c (.val (.int .i64 (S.n:Int))),.c (.val (.int .i64 (S.m:Int))),.c (encSl 1 fM (colsM S)),.c (vr (rowV S.b)),.c mn,.own 4 vb,.c (.val (.int .i64 (bu - (rem:Int)))),.c (.val (.int .i64 bu)),.c wk]],true,true⟩,⟨vb,3,1,encB fI (intsN bs),true,nb⟩,R]) (show _ <= 6 from Nat.le_of_ble_eq_true rfl) [true,true,false,false,false,true] ?hT1 ?hH1)
 case hT1=>first | (simp (disch:=omega) only [hds,liveT,cleanAV,cleanCell,clean1,cleanBlk_mk,reduceIte,iS,iA,iN,q0,q1,q2,qR];done) | rfl
 case hH1=>first | (simp (disch:=omega) only [hds,liveT,cleanAV,cleanCell,clean1,cleanBlk_mk,reduceIte,iS,iA,iN,q0,q1,q2,qR];done) | rfl
 refine awp_loop (fun (zz:(List Nat) × Nat × CV)=>⟨(aT v :: aV C :: .junk :: .junk :: .junk :: .one (.iptr (fR (rawQ own))) :: .junk :: .junk :: .junk :: .junk :: .junk :: .junk :: .junk :: .junk :: .junk :: .junk :: .junk :: .junk :: .junk :: .junk :: .junk :: .junk :: .junk :: .junk :: .junk :: .junk :: .junk :: .junk :: .junk :: .junk :: .junk :: .junk :: .junk :: .junk :: .junk :: .junk :: .junk :: .junk :: .junk :: .junk :: .junk :: .junk :: .junk :: .junk :: .junk :: .junk :: .junk :: .junk :: .junk :: .junk :: .junk :: .junk :: .junk :: .junk :: .junk :: .junk :: .junk :: .junk :: .junk :: .junk :: .junk :: .junk :: .junk :: .junk :: .junk :: .junk :: .junk :: .junk :: .junk :: .junk :: .junk :: .junk :: .junk :: .junk :: .junk :: []),[P0,P1,P2,⟨v,77,9,[[.c (.val (.int .i64 (S.n:Int))),.c (.val (.int .i64 (S.m:Int))),.c (encSl 1 fM (colsM S)),.c (vr (rowV S.b)),.c mn,.own 4 vb,.c (.val (.int .i64 (bu - (zz.2.1:Int)))),.c (.val (.int .i64 bu)),.c zz.2.2]],true,true⟩,⟨vb,3,1,encB fI (intsN zz.1),true,nb⟩,R]⟩) (fun (zz:(List Nat) × Nat × CV)=>(zz.2.1:Int) <= bu /\ COk S zz.1 /\ nb = !(intsN zz.1).isEmpty /\ runL S (valsV C) own zz.2.1 zz.1 = O) (fun (zz:(List Nat) × Nat × CV)=>zz.2.1) (bs,rem,wk) ?hI2 (Fgt.head (show _ <= 6 from Nat.le_of_ble_eq_true rfl) [true,true,false,false,false,true] ?hT2 ?hH2) ?hB2
 case hT2=>first | (simp (disch:=omega) only [hds,liveT,cleanAV,cleanCell,clean1,cleanBlk_mk,reduceIte,iS,iA,iN,q0,q1,q2,qR];done) | rfl
 case hH2=>first | (simp (disch:=omega) only [hds,liveT,cleanAV,cleanCell,clean1,cleanBlk_mk,reduceIte,iS,iA,iN,q0,q1,q2,qR];done) | rfl
 ·dsimp only;exact ⟨hrem,hb,hnb,hO⟩
 rintro ⟨cs,rm,wz⟩ ⟨hrm,hbs,hnb',hO'⟩
 dsimp only at hrm hbs hnb' hO'
 have hB:=hbs.toBOk
 have hbl:=bsl_of hB
 have hbn:=hbl.1
 have hib:=intsN_length cs
 have fx:∀ q ∈ xL S cs,FitsQ q (4 ^ S.m * (L + 1)):=fun q hq=>fits_sol (wf_turnL (wf_sq hS hB.len)) l1 (by exact hS.bl) hS.bf q hq
 have fy:∀ q ∈ yL S (valsV C) own cs,FitsQ q (4 ^ S.m * (L + 1)):=fun q hq=>fits_sol (wf_sq hS hB.len) l1 (by rw [List.length_map];exact hB.len) (fun q hq=>by
  obtain ⟨k,hk,rfl⟩:=List.mem_map.1 hq
  unfold costL
  split
  ·exact hof
  ·rename_i h
   have h':k < (valsV C).length:=by rw [vals_len];omega
   rw [List.getD_eq_getElem?_getD,List.getElem?_eq_getElem h']
   exact vals_fits (n:=(osl C).length) ⟨Nat.le_refl _,hcf⟩ l1 _ (List.getElem_mem _)) q hq
 have hs1:=solve_O S L hS cs hbl S.b hS.bl hS.bf v vb nb mn (bu - (rm:Int)) bu wz P0 P1 P2 R h0 h1 h2 hR
 change OpenC _ _ _ _ (aV (rowV (xL S cs))) _ at hs1
 have hp:=prices_O S L hS cs hbl C own hcl hcf hof v vb nb mn (bu - (rm:Int)) bu (vr (rowV (xL S cs))) P0 P1 P2 R h0 h1 h2 hR
 have he:=enter_P S L (4 ^ S.m * (L + 1)) hS C (yL S (valsV C) own cs) hcl hcf (y_len hS.toWf (valsV C) own hB) fy hK1 l4 (by omega) mn (encSl 1 fI (rowO (intsN cs))) (bu - (rm:Int)) bu (vr (rowV (xL S cs)))
 unfold tB at hs1 hp
 have hen:stepL S (valsV C) own cs = match enterL S (valsV C) (yL S (valsV C) own cs) with
  | none=>.fin none []
  | some k=>match leaveL (xL S cs) (dL S cs k) cs with
   | none=>.fin (some k) (dL S cs k)
   | some a=>.go k a:=rfl
 have hesp:=fun k hk=>enter_some (k:=k) hS.toWf hB (costs:=valsV C) (own:=own) hk
 generalize hy:yL S (valsV C) own cs = y at hp he hen hesp
 cases hE:enterL S (valsV C) y with
 | none =>
  rw [hE] at he hen
  dsimp only at hen
  change PureC _ _ _ (.ret (aI (-1))) at he
  have hOe:=(runL_fin hen rm).symm.trans hO'
  rw [hy] at hOe
  subst hOe
  repeat (first | (with_reducible first | refine Way.imp ?_ | refine blk_o rfl ?_) | ((with_reducible refine WayR.imp (fun K hK=>?_));simp (disch:=first | omega | (simp only [dls];omega)) only [std,reduceIte,reduceCtorEq,iT,nA,nS,nM,iA,iS,iM,iN,fU];subst hK) | (apply call_quiet (hs1) rfl rfl) | (apply call_quiet (hp) rfl rfl) | (apply call_flat (he) rfl;(case hcl=>(simp only [evs,St.ev,constAV,evl];(repeat (first | exact closeAVs_nil | (apply closeAVs_cons;(first | (refine close_own3 rfl (by decide)) | (refine close_ownO rfl (by decide) ?_;assumption) | rfl | exact (close_T rfl rfl hnb')))));done));(case hf=>rfl)))
  exact ⟨rfl,rfl⟩
 | some k =>
  rw [hE] at he hen
  dsimp only at hen
  change PureC _ _ _ (.ret (aI (k:Int))) at he
  have hkn:=(hesp k hE).1
  have hk2:k < (osl (colsM S)).length:=by omega
  have hck:=colsM_at hk2
  have hkc:k < S.cols.length:=by have:=hS.cl;omega
  have fcol:∀ q ∈ S.cols.getD k [],FitsQ q L:=fun q hq=>by
   rw [List.getD_eq_getElem?_getD,List.getElem?_eq_getElem hkc] at hq
   exact hS.colf _ (List.getElem_mem hkc) q hq
  have fd:∀ q ∈ dL S cs k,FitsQ q (4 ^ S.m * (L + 1)):=fun q hq=>fits_sol (wf_turnL (wf_sq hS hB.len)) l1 (hS.cm k hkn) fcol q hq
  have hs2:=solve_O S L hS cs hbl (S.cols.getD k []) (hS.cm k hkn) fcol v vb nb mn (bu - (rm:Int)) bu (vr (rowV (xL S cs))) P0 P1 P2 R h0 h1 h2 hR
  change OpenC _ _ _ _ (aV (rowV (dL S cs k))) _ at hs2
  have hxl:=x_len hS.toWf hB
  have hdl:=d_len hS.toWf hB k
  have hl:=leave_P S (4 ^ S.m * (L + 1)) (xL S cs) (dL S cs k) cs (by omega) (by omega) (by omega) (fun i hi=>by have:=hbl.2 i hi;omega) fx fd (by omega) mn nb hnb' (bu - (rm:Int)) bu
  unfold tB at hs2
  cases hL:leaveL (xL S cs) (dL S cs k) cs with
  | none =>
   rw [hL] at hl hen
   dsimp only at hen
   change PureC _ _ _ (.ret (aI (-1))) at hl
   have hOe:=(runL_fin hen rm).symm.trans hO'
   rw [hy] at hOe
   subst hOe
   repeat (first | (with_reducible first | refine Way.imp ?_ | refine blk_o rfl ?_) | ((with_reducible refine WayR.imp (fun K hK=>?_));simp (disch:=first | omega | (simp only [dls];omega)) only [std,reduceIte,reduceCtorEq,iT,nA,nS,nM,iA,iS,iM,iN,fU,fM,hck];subst hK) | (apply call_quiet (hs1) rfl rfl) | (apply call_quiet (hp) rfl rfl) | (apply call_flat (he) rfl;(case hcl=>(simp only [evs,St.ev,constAV,evl];(repeat (first | exact closeAVs_nil | (apply closeAVs_cons;(first | (refine close_own3 rfl (by decide)) | (refine close_ownO rfl (by decide) ?_;assumption) | rfl | exact (close_T rfl rfl hnb')))));done));(case hf=>rfl)) | (apply call_quiet (hs2) rfl rfl) | (apply call_flat (hl) rfl;(case hcl=>(simp only [evs,St.ev,constAV,evl];(repeat (first | exact closeAVs_nil | (apply closeAVs_cons;(first | (refine close_own3 rfl (by decide)) | (refine close_ownO rfl (by decide) ?_;assumption) | rfl | exact (close_T rfl rfl hnb')))));done));(case hf=>rfl)))
   exact ⟨rfl,rfl⟩
  | some a =>
   rw [hL] at hl hen
   dsimp only at hen
   change PureC _ _ _ (.ret (aI (a:Int))) at hl
   have hnx:=hbs.next hS.toWf hen
   obtain ⟨ham,_⟩:=stepL_row hS.toWf hB hen
   have hsI:∀ b:Int,(encB fI (intsN cs)).set a [Cell.c (.val (.int .i64 b))] = encB fI ((intsN cs).set a b):=fun b=>encB_set (intsN cs) a b
   cases rm with
   | zero =>
    have hOe:=(runL_go0 hen).symm.trans hO'
    subst hOe
    repeat (first | (with_reducible first | refine Way.imp ?_ | refine blk_o rfl ?_) | ((with_reducible refine WayR.imp (fun K hK=>?_));simp (disch:=first | omega | (simp only [dls];omega)) only [std,reduceIte,reduceCtorEq,iT,nA,nS,nM,iA,iS,iM,iN,fU,fM,hck];subst hK) | (apply call_quiet (hs1) rfl rfl) | (apply call_quiet (hp) rfl rfl) | (apply call_flat (he) rfl;(case hcl=>(simp only [evs,St.ev,constAV,evl];(repeat (first | exact closeAVs_nil | (apply closeAVs_cons;(first | (refine close_own3 rfl (by decide)) | (refine close_ownO rfl (by decide) ?_;assumption) | rfl | exact (close_T rfl rfl hnb')))));done));(case hf=>rfl)) | (apply call_quiet (hs2) rfl rfl) | (apply call_flat (hl) rfl;(case hcl=>(simp only [evs,St.ev,constAV,evl];(repeat (first | exact closeAVs_nil | (apply closeAVs_cons;(first | (refine close_own3 rfl (by decide)) | (refine close_ownO rfl (by decide) ?_;assumption) | rfl | exact (close_T rfl rfl hnb')))));done));(case hf=>rfl)))
    exact ⟨rfl,rfl⟩
   | succ rm =>
    rw [runL_go hen] at hO'
    have hst:(bu - ((rm + 1:Nat):Int)) + 1 = bu - (rm:Int):=by omega
    have hst2:bu - ((rm:Int) + 1) + 1 = bu - (rm:Int):=by omega
    have hsk:=intsN_set cs a k
    repeat (first | (with_reducible first | refine Way.imp ?_ | refine blk_o rfl ?_) | ((with_reducible refine WayR.imp (fun K hK=>?_));simp (disch:=first | omega | (simp only [dls];omega)) only [std,reduceIte,reduceCtorEq,iT,nA,nS,nM,iA,iS,iM,iN,fU,fM,hck,fI,hsI];subst hK) | (apply call_quiet (hs1) rfl rfl) | (apply call_quiet (hp) rfl rfl) | (apply call_flat (he) rfl;(case hcl=>(simp only [evs,St.ev,constAV,evl];(repeat (first | exact closeAVs_nil | (apply closeAVs_cons;(first | (refine close_own3 rfl (by decide)) | (refine close_ownO rfl (by decide) ?_;assumption) | rfl | exact (close_T rfl rfl hnb')))));done));(case hf=>rfl)) | (apply call_quiet (hs2) rfl rfl) | (apply call_flat (hl) rfl;(case hcl=>(simp only [evs,St.ev,constAV,evl];(repeat (first | exact closeAVs_nil | (apply closeAVs_cons;(first | (refine close_own3 rfl (by decide)) | (refine close_ownO rfl (by decide) ?_;assumption) | rfl | exact (close_T rfl rfl hnb')))));done));(case hf=>rfl)))
    refine ⟨(cs.set a k,rm,vr (rowV (xL S cs))),?hI3,?hM3,Fgt.head (show _ <= 6 from Nat.le_of_ble_eq_true rfl) [true,true,false,false,false,true] ?hT3 ?hH3⟩
    case hT3=>first | (simp (disch:=omega) only [hds,liveT,cleanAV,cleanCell,clean1,cleanBlk_mk,reduceIte,iS,iA,iN,q0,q1,q2,qR,hst,hst2,hsk];done) | rfl
    case hH3=>first | (simp (disch:=omega) only [hds,liveT,cleanAV,cleanCell,clean1,cleanBlk_mk,reduceIte,iS,iA,iN,q0,q1,q2,qR,hst,hst2,hsk];done) | rfl
    ·dsimp only
     refine ⟨by omega,hnx,?_,hO'⟩
     rw [hnb',hsk]
     cases intsN cs <;> cases a <;> rfl
    ·dsimp only;omega
end Go.Proofs.Ytncgbjhojbnecaa
