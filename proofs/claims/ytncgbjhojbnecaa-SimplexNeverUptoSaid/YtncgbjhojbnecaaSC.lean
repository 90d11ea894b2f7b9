/- Walks of simplex: may, second. -/
import Derived.Test.YtncgbjhojbnecaaSB
import Derived.Test.YtncgbjhojbnecaaVK
set_option linter.unusedSimpArgs false
set_option linter.unusedVariables false
set_option linter.unnecessarySimpa false
set_option maxRecDepth 100000
set_option maxHeartbeats 4000000
namespace Go.Proofs.Ytncgbjhojbnecaa
open Go Go.Am Go.Proofs Go.RowKit Go.Off
open Nat renaming reduceAdd -> nA,reduceSub -> nS,reduceMul -> nM,reduceBEq -> nB
open Int renaming reduceToNat -> iT,reduceAdd -> iA,reduceSub -> iS,reduceMul -> iM,reduceNeg -> iN
abbrev c38:CC:=(.seq (.reg [⟨some 2,none,.box 25 (.tmp 0)⟩,⟨some 4,none,.mv (.const (.bool false))⟩]) (.seq (.reg [⟨some 5,none,.load 3 true (.tmp 2)⟩,⟨some 6,none,.callf (.func 11) [(.tmp 5)]⟩,⟨some 7,none,.mv (.tmp 6)⟩,⟨some 8,(some (7,true)),.mv (.tmp 1)⟩,⟨some 9,(some (7,true)),.bin .geq (.tmp 8) (.const (.int .i64 (0)))⟩,⟨some 10,none,.pick (.tmp 7) (.tmp 9) (.const (.bool false))⟩,⟨some 4,none,.mv (.tmp 10)⟩]) .ret))
theorem cc38:ccode Try.prog [] (Try.f38.body.getD .skip) = some c38:=by kernel_rfl
theorem body38:Try.f38.body = some (Try.f38.body.getD .skip):=rfl
theorem may_C (p:PB) (bu:Int):PureC Try.prog 38 [aP p,aI bu] (.ret (aB (rightB p && decide (0 <= bu)))):=by
 have hr:=sright_C p
 by_cases h:0 <= bu
 ·rw [decide_eq_true h]
  cases hb:rightB p with
  | true =>
   rw [hb] at hr
   refine pureC_of (rs:=[(RV.tmp 4)]) Try.func38 (fun a w=>Try.call38 a w) body38 cc38 (by kernel_rfl) ?_
   rw [Try.ntmps38]
   simp only [frs,nA,nS]
   repeat (first | (with_reducible first | refine Way.imp ?_ | refine blk_o rfl ?_) | ((with_reducible refine WayR.imp (fun K hK=>?_));simp (disch:=first | omega | (simp only [dls];omega)) only [std,reduceIte,reduceCtorEq,iT,nA,nS,nM,iA,iS,iM,iN,fU];subst hK) | refine zcA (hr) rfl rfl rfl ?_)
   exact ⟨_,rfl,rfl⟩
  | false =>
   rw [hb] at hr
   refine pureC_of (rs:=[(RV.tmp 4)]) Try.func38 (fun a w=>Try.call38 a w) body38 cc38 (by kernel_rfl) ?_
   rw [Try.ntmps38]
   simp only [frs,nA,nS]
   repeat (first | (with_reducible first | refine Way.imp ?_ | refine blk_o rfl ?_) | ((with_reducible refine WayR.imp (fun K hK=>?_));simp (disch:=first | omega | (simp only [dls];omega)) only [std,reduceIte,reduceCtorEq,iT,nA,nS,nM,iA,iS,iM,iN,fU];subst hK) | refine zcA (hr) rfl rfl rfl ?_)
   exact ⟨_,rfl,rfl⟩
 ·rw [decide_eq_false h]
  cases hb:rightB p with
  | true =>
   rw [hb] at hr
   refine pureC_of (rs:=[(RV.tmp 4)]) Try.func38 (fun a w=>Try.call38 a w) body38 cc38 (by kernel_rfl) ?_
   rw [Try.ntmps38]
   simp only [frs,nA,nS]
   repeat (first | (with_reducible first | refine Way.imp ?_ | refine blk_o rfl ?_) | ((with_reducible refine WayR.imp (fun K hK=>?_));simp (disch:=first | omega | (simp only [dls];omega)) only [std,reduceIte,reduceCtorEq,iT,nA,nS,nM,iA,iS,iM,iN,fU];subst hK) | refine zcA (hr) rfl rfl rfl ?_)
   exact ⟨_,rfl,rfl⟩
  | false =>
   rw [hb] at hr
   refine pureC_of (rs:=[(RV.tmp 4)]) Try.func38 (fun a w=>Try.call38 a w) body38 cc38 (by kernel_rfl) ?_
   rw [Try.ntmps38]
   simp only [frs,nA,nS]
   repeat (first | (with_reducible first | refine Way.imp ?_ | refine blk_o rfl ?_) | ((with_reducible refine WayR.imp (fun K hK=>?_));simp (disch:=first | omega | (simp only [dls];omega)) only [std,reduceIte,reduceCtorEq,iT,nA,nS,nM,iA,iS,iM,iN,fU];subst hK) | refine zcA (hr) rfl rfl rfl ?_)
   exact ⟨_,rfl,rfl⟩
theorem used_T {h:List Blk} {S:SD} {v vb:Nat} {nb live lb:Bool} {mn wk:CV} {st bu:Int} {bs:List Nat} (h3:h[3]? = some ⟨v,77,9,[[.c (.val (.int .i64 (S.n:Int))),.c (.val (.int .i64 (S.m:Int))),.c (encSl 1 fM (colsM S)),.c (vr (rowV S.b)),.c mn,.own 4 vb,.c (.val (.int .i64 st)),.c (.val (.int .i64 bu)),.c wk]],live,true⟩) (h4:h[4]? = some ⟨vb,3,1,encB fI (intsN bs),lb,nb⟩) :
  usedAV h 3 (aT v) = [3,4]:=by
 have e0:∀ x,usedCV h 3 (.c x) = []:=fun x=>rfl
 have e1:usedCV h 3 (.own 4 vb) = [4]:=used_own (n:=2) h4
 simp only [usedAV,usedFn,usedCell,h3,List.getElem?_cons_zero,List.drop_zero,List.map_cons,List.map_nil,e0,e1,List.flatten_cons,List.flatten_nil,List.nil_append,List.append_nil]
def srC (v:Int) (X Y Ray:List Rat) (bs:List Nat) (st:Int):List Cell:=[.c (.val (.int .i64 v)),.c (vr (rowV X)),.c (vr (rowV Y)),.c (vr (rowV Ray)),.c (encSl 1 fI (rowO (intsN bs))),.c (.val (.int .i64 st))]
abbrev aSR0:AV:=.agg [.c (.val (.int .i64 0)),.c (.val (.slice none 0 0)),.c (.val (.slice none 0 0)),.c (.val (.slice none 0 0)),.c (.val (.slice none 0 0)),.c (.val (.int .i64 0))]
theorem scale_neg (l:List Rat):scaleQ (rowV l) (rawQ ((-1:Int):Rat)).val = scaleL l (-1):=by
 unfold scaleQ scaleL
 rw [rawQ_val,osl_rowV,List.map_map]
 refine List.map_congr_left (fun q _=>?_)
 show (rawQ q).val * _ = _
 rw [rawQ_val]
 rfl
theorem vr_nil:vr (rowV []) = .val (.slice none 0 0):=rfl
def secV (S:SD) (ms:List Bool) (O:RO) (bu:Int):AV :=
 if O.err then .tup [aSR0,aI 10] else
 match O.k with
 | none=>.tup [.agg (srC 1 (spreadL S O.bs (xL S O.bs)) (turnTo ms O.y O.y.length) [] O.bs (bu - (O.rem:Int))),aI 0]
 | some k=>.tup [.agg (srC 3 (spreadL S O.bs (xL S O.bs)) [] ((spreadL S O.bs (scaleL O.d (-1))).set k 1) O.bs (bu - (O.rem:Int))),aI 0]
def secR (S:SD) (ms:List Bool) (O:RO) (bu:Int):Blk:=match secV S ms O bu with
 | .tup [.agg l,_]=>⟨0,30,6,[l],true,true⟩
 | _=>default
abbrev c44:CC:=(.seq (.reg [⟨some 4,none,.new 30 [(.int .i64 (0)),(.slice none 0 0),(.slice none 0 0),(.slice none 0 0),(.slice none 0 0),(.int .i64 (0))]⟩,⟨some 5,none,.mv (.const (.int .i64 (0)))⟩]) (.seq (.reg [⟨some 12,none,.mv (.tmp 0)⟩,⟨some 13,none,.mv (.tmp 1)⟩,⟨some 14,none,.callf (.func 15) [(.const (.int .i64 (0)))]⟩,⟨some 15,none,.callf (.func 40) [(.tmp 12),(.tmp 13),(.tmp 14)]⟩,⟨some 11,none,.mv (.tmp 15)⟩,⟨some 16,none,.ext (.tmp 11) 0⟩,⟨some 17,none,.ext (.tmp 11) 1⟩,⟨some 18,none,.ext (.tmp 11) 2⟩,⟨some 19,none,.ext (.tmp 11) 3⟩,⟨some 6,none,.mv (.tmp 16)⟩,⟨some 7,none,.mv (.tmp 17)⟩,⟨some 8,none,.mv (.tmp 18)⟩,⟨some 9,none,.mv (.tmp 19)⟩]) (.seq (.seq (.reg [⟨some 20,none,.mv (.tmp 9)⟩,⟨some 21,none,.bin .neq (.tmp 20) (.const (.int .i64 (0)))⟩]) (.cond (.tmp 21) (.seq (.reg [⟨some 22,none,.build [(.int .i64 (0)),(.slice none 0 0),(.slice none 0 0),(.slice none 0 0),(.slice none 0 0),(.int .i64 (0))] []⟩,⟨some 23,none,.mv (.tmp 9)⟩,⟨none,none,.store 6 (.tmp 4) (.tmp 22)⟩,⟨some 5,none,.mv (.tmp 23)⟩]) .ret) .skip)) (.seq (.regn true [⟨some 24,none,.mv (.tmp 0)⟩,⟨some 25,none,.mv (.tmp 0)⟩,⟨some 26,none,.faddr 0 (.tmp 25)⟩,⟨some 27,none,.faddr 8 (.tmp 26)⟩,⟨some 28,none,.load 1 false (.tmp 27)⟩,⟨some 29,none,.callf (.func 65) [(.tmp 24),(.tmp 28)]⟩,⟨some 30,none,.mv (.tmp 0)⟩,⟨some 31,none,.faddr 0 (.tmp 30)⟩,⟨some 32,none,.faddr 5 (.tmp 31)⟩,⟨some 33,none,.load 1 false (.tmp 32)⟩,⟨some 34,none,.callf (.func 42) [(.tmp 33)]⟩,⟨some 35,none,.mv (.tmp 0)⟩,⟨some 36,none,.faddr 0 (.tmp 35)⟩,⟨some 37,none,.faddr 6 (.tmp 36)⟩,⟨some 38,none,.load 1 false (.tmp 37)⟩,⟨some 39,none,.build [(.int .i64 (0)),(.slice none 0 0),(.slice none 0 0),(.slice none 0 0),(.slice none 0 0),(.int .i64 (0))] [(0,(1,(.const (.int .i64 (1))))),(1,(1,(.tmp 29))),(4,(1,(.tmp 34))),(5,(1,(.tmp 38)))]⟩,⟨some 10,none,.fill 30 [(.int .i64 (0)),(.slice none 0 0),(.slice none 0 0),(.slice none 0 0),(.slice none 0 0),(.int .i64 (0))]⟩,⟨none,none,.store 6 (.tmp 10) (.tmp 39)⟩]) (.seq (.seq (.reg [⟨some 40,none,.mv (.tmp 7)⟩,⟨some 41,none,.bin .lss (.tmp 40) (.const (.int .i64 (0)))⟩]) (.cond (.tmp 41) (.seq (.reg [⟨some 42,none,.mv (.tmp 0)⟩,⟨some 43,none,.mv (.tmp 6)⟩,⟨some 44,none,.callf (.func 41) [(.tmp 42),(.tmp 43)]⟩,⟨some 45,none,.faddr 2 (.tmp 10)⟩,⟨none,none,.store 1 (.tmp 45) (.tmp 44)⟩]) (.seq (.reg [⟨some 46,none,.load 6 true (.tmp 10)⟩,⟨none,none,.store 6 (.tmp 4) (.tmp 46)⟩,⟨some 5,none,.mv (.const (.int .i64 (0)))⟩]) .ret)) .skip)) (.seq (.reg [⟨some 47,none,.faddr 0 (.tmp 10)⟩,⟨none,none,.store 1 (.tmp 47) (.const (.int .i64 (3)))⟩]) (.seq (.reg [⟨some 48,none,.mv (.tmp 0)⟩,⟨some 49,none,.mv (.tmp 8)⟩,⟨some 50,none,.callf (.func 15) [(.const (.int .i64 (-1)))]⟩,⟨some 51,none,.callf (.func 16) [(.tmp 49),(.tmp 50)]⟩,⟨some 52,none,.callf (.func 65) [(.tmp 48),(.tmp 51)]⟩,⟨some 53,none,.faddr 3 (.tmp 10)⟩,⟨none,none,.store 1 (.tmp 53) (.tmp 52)⟩]) (.seq (.reg [⟨some 54,none,.faddr 3 (.tmp 10)⟩,⟨some 55,none,.load 1 false (.tmp 54)⟩,⟨some 56,none,.mv (.tmp 7)⟩,⟨some 57,none,.callf (.func 15) [(.const (.int .i64 (1)))]⟩,⟨some 58,none,.iaddr 3 none (.tmp 55) (.tmp 56)⟩,⟨none,none,.store 3 (.tmp 58) (.tmp 57)⟩]) (.seq (.reg [⟨some 59,none,.load 6 true (.tmp 10)⟩,⟨none,none,.store 6 (.tmp 4) (.tmp 59)⟩,⟨some 5,none,.mv (.const (.int .i64 (0)))⟩]) .ret)))))))))
theorem cc44:ccode Try.prog [40] (Try.f44.body.getD .skip) = some c44:=by kernel_rfl
theorem body44:Try.f44.body = some (Try.f44.body.getD .skip):=rfl
theorem second_O (S:SD) (L:Nat) (hS:SFits S L) (ms:List Bool) (hml:ms.length = S.m) (C:VV) (hcl:(osl C).length = S.n) (hcf:∀ r ∈ osl C,Fits r L) (bu:Int) (hbu:bu <= 9223372036854775807) (rem:Nat) (hrem:(rem:Int) <= bu) (bs:List Nat) (hb:COk S bs) (v vb:Nat) (nb:Bool) (hnb:nb = !(intsN bs).isEmpty) (wk:CV) (P0 P1 P2:Blk) (h0:Pad P0) (h1:Pad P1) (h2:Pad P2) (f0:0 < P0.e) (f1:0 < P1.e) (f2:0 < P2.e) (O:RO) (hO:runL S (valsV C) 0 rem bs = O) :
  OpenC Try.prog 44 [aT v,aV C] [P0,P1,P2,tB S v (mnV ms) (.own 4 vb) (bu - (rem:Int)) bu wk,⟨vb,3,1,encB fI (intsN bs),true,nb⟩]
   (secV S ms O bu)
   [P0,P1,P2,⟨v,77,9,[[.c (.val (.int .i64 (S.n:Int))),.c (.val (.int .i64 (S.m:Int))),.c (encSl 1 fM (colsM S)),.c (vr (rowV S.b)),.c (mnV ms),.own 4 vb,.c (.val (.int .i64 (bu - (O.rem:Int)))),.c (.val (.int .i64 bu)),.c (vr (rowV (xL S O.bs)))]],false,true⟩,⟨vb,3,1,encB fI (intsN O.bs),false,nb⟩,secR S ms O bu]:=by
 have hm:=hS.mb
 have hn:=hS.nb
 have l1:=hS.l1
 have l2:=hS.l2
 have l3:=hS.l3
 have hrun:=run_O S L hS C 0 hcl hcf (fitsQ_zero _ l1) bu hbu rem hrem bs hb v vb nb hnb (mnV ms) wk P0 P1 P2 ⟨0,30,6,[[.c (.val (.int .i64 0)),.c (.val (.slice none 0 0)),.c (.val (.slice none 0 0)),.c (.val (.slice none 0 0)),.c (.val (.slice none 0 0)),.c (.val (.int .i64 0))]],true,true⟩ h0 h1 h2 (fun n=>rfl) O hO
 have hi0:=rint_C 0 (by omega) (by omega)
 rw [show ((0:Int):Rat) = 0 from rfl] at hi0
 obtain ⟨g1,_,g3,_,g5⟩:=run_spec hS.toWf (costs:=valsV C) (own:=0) (fun _=>True) (fun _ _ _ _ _ _=>trivial) rem bs hb trivial
 rw [hO] at g1 g3 g5
 have hB:=g1.toBOk
 have hlen:=hB.len
 have hnb2:nb = !(intsN O.bs).isEmpty:=by
  rw [hnb,empt_len,empt_len,intsN_length,intsN_length,hlen,hb.len]
 have q0:=h0
 have q1:=h1
 have q2:=h2
 unfold Pad at q0 q1 q2
 unfold tB at hrun
 unfold tB
 cases hE:O.err with
 | true =>
  rw [hE] at hrun
  have e1:secV S ms O bu = .tup [aSR0,aI 10]:=by unfold secV;rw [hE];rfl
  have e2:secR S ms O bu = ⟨0,30,6,[[.c (.val (.int .i64 0)),.c (.val (.slice none 0 0)),.c (.val (.slice none 0 0)),.c (.val (.slice none 0 0)),.c (.val (.slice none 0 0)),.c (.val (.int .i64 0))]],true,true⟩:=by unfold secR;rw [e1]
  rw [e1,e2]
  refine openC_of_fgt (rs:=[(RV.cell 4 6 true),(RV.tmp 5)]) Try.func44 (fun a w=>Try.call44 a w) body44 cc44 (by kernel_rfl) ?_
  rw [Try.ntmps44]
  simp only [frs,nA,nS]
  repeat (first | (with_reducible first | refine Way.imp ?_ | refine blk_o rfl ?_) | ((with_reducible refine WayR.imp (fun K hK=>?_));simp (disch:=first | omega | (simp only [dls];omega)) only [std,reduceIte,reduceCtorEq,iT,nA,nS,nM,iA,iS,iM,iN,fU];subst hK) | refine zcA (hi0) rfl rfl rfl ?_ | (apply call_open (hrun) rfl rfl))
  refine ⟨_,Fgt.trans (Fgt.freeze [3,4] _) (Fgt.head (h':=[P0,P1,P2,⟨v,77,9,[[.c (.val (.int .i64 (S.n:Int))),.c (.val (.int .i64 (S.m:Int))),.c (encSl 1 fM (colsM S)),.c (vr (rowV S.b)),.c (mnV ms),.own 4 vb,.c (.val (.int .i64 (bu - (O.rem:Int)))),.c (.val (.int .i64 bu)),.c (vr (rowV (xL S O.bs)))]],false,true⟩,⟨vb,3,1,encB fI (intsN O.bs),false,nb⟩,⟨0,30,6,[[.c (.val (.int .i64 0)),.c (.val (.slice none 0 0)),.c (.val (.slice none 0 0)),.c (.val (.slice none 0 0)),.c (.val (.slice none 0 0)),.c (.val (.int .i64 0))]],true,true⟩]) (show _ <= 6 from Nat.le_of_ble_eq_true rfl) (true :: true :: true :: true :: true :: true :: true :: true :: true :: true :: true :: true :: true :: true :: true :: true :: true :: true :: true :: true :: true :: true :: true :: true :: true :: true :: true :: true :: true :: true :: true :: true :: true :: true :: true :: true :: true :: true :: true :: true :: true :: true :: true :: true :: true :: true :: true :: true :: true :: true :: true :: true :: true :: true :: true :: true :: true :: true :: true :: true :: []) rfl ?hE1),rfl,rfl⟩
  rw [freeze_from];simp only [List.set_cons_succ,List.set_cons_zero,fzl,freezeFrom_keep,nB,nA,Bool.false_eq_true,if_true,if_false,reduceIte]
  first | (simp (disch:=omega) only [hds,liveT,cleanAV,cleanCell,clean1,cleanBlk_mk,reduceIte,iS,iA,iN,q0,q1,q2];done) | rfl
 | false =>
  have g6:stepL S (valsV C) 0 O.bs = .fin O.k O.d /\ O.y = yL S (valsV C) 0 O.bs:=by
   rcases g5 with ⟨_,g6,g7⟩ | ⟨g6,_⟩
   ·exact ⟨g6,g7⟩
   ·rw [hE] at g6;cases g6
  obtain ⟨g6,g7⟩:=g6
  have hyl:O.y.length = S.m:=by rw [g7];exact y_len hS.toWf _ _ hB
  have hxl:=x_len hS.toWf hB
  have hsx:=(spread_P S hn O.bs (rowO (intsN O.bs)) (osl_rowO _) (xL S O.bs) (by omega) (by omega) (mnV ms) (bu - (O.rem:Int)) bu (vr (rowV (xL S O.bs))))
  have hNN:(!decide (S.n = 0)) = !((spreadL S O.bs (xL S O.bs)).map rawQ).isEmpty:=by rw [empt_len,List.length_map,spreadL_len]
  rw [hNN] at hsx
  have hsx:=hsx.fresh_rowO
  change PureC _ _ _ (.ret (aV (rowV (spreadL S O.bs (xL S O.bs))))) at hsx
  have hcln:=cloneI_R (rowO (intsN O.bs)) (by rw [osl_rowO,intsN_length];omega)
  have fy:∀ q ∈ O.y,FitsQ q (4 ^ S.m * (L + 1)):=fun q hq=>by
   rw [g7] at hq
   refine fits_sol (wf_sq hS hB.len) l1 (by rw [List.length_map];exact hB.len) (fun q hq=>?_) q hq
   obtain ⟨k,hk,rfl⟩:=List.mem_map.1 hq
   unfold costL
   split
   ·exact fitsQ_zero _ l1
   ·rename_i h
    have h':k < (valsV C).length:=by rw [vals_len];omega
    rw [List.getD_eq_getElem?_getD,List.getElem?_eq_getElem h']
    exact vals_fits (n:=(osl C).length) ⟨Nat.le_refl _,hcf⟩ l1 _ (List.getElem_mem _)
  have htn:=turn_P S ms O.y (4 ^ S.m * (L + 1)) (by omega) (by omega) fy (by omega) (encSl 1 fI (rowO (intsN O.bs))) (bu - (O.rem:Int)) bu (vr (rowV (xL S O.bs)))
  rw [hE] at hrun
  cases hK:O.k with
  | none =>
   rw [hK] at hrun
   change OpenC _ _ _ _ (.tup [aV (rowV O.y),aI (-1),aV (rowV O.d),aI 0]) _ at hrun
   have e1:secV S ms O bu = .tup [.agg (srC 1 (spreadL S O.bs (xL S O.bs)) (turnTo ms O.y O.y.length) [] O.bs (bu - (O.rem:Int))),aI 0]:=by unfold secV;rw [hE,hK];rfl
   have e2:secR S ms O bu = ⟨0,30,6,[srC 1 (spreadL S O.bs (xL S O.bs)) (turnTo ms O.y O.y.length) [] O.bs (bu - (O.rem:Int))],true,true⟩:=by unfold secR;rw [e1]
   rw [e1,e2]
   refine openC_of_fgt (rs:=[(RV.cell 4 6 true),(RV.tmp 5)]) Try.func44 (fun a w=>Try.call44 a w) body44 cc44 (by kernel_rfl) ?_
   rw [Try.ntmps44]
   simp only [frs,nA,nS]
   repeat (first | (with_reducible first | refine Way.imp ?_ | refine blk_o rfl ?_) | ((with_reducible refine WayR.imp (fun K hK=>?_));simp (disch:=first | omega | (simp only [dls];omega)) only [std,reduceIte,reduceCtorEq,iT,nA,nS,nM,iA,iS,iM,iN,fU,phIdx_v];subst hK) | refine zcA (hi0) rfl rfl rfl ?_ | (apply call_open (hrun) rfl rfl) | (apply call_ret_34 (hsx) rfl;(case hcl=>(simp only [evs,St.ev,constAV,evl];(repeat (first | exact closeAVs_nil | (apply closeAVs_cons;(first | (refine close_own3 rfl (by decide)) | (refine close_ownO rfl (by decide) ?_;assumption) | rfl | exact (close_T rfl rfl hnb2)))));done));(case hu=>(simp only [evs,St.ev,constAV,evl];(repeat (first | exact used_nil | (apply used_cons;(first | (apply used_own3;rfl) | exact (used_T rfl rfl) | rfl))));done));(case h1=>((simp only [fzl,freezeFrom_keep,nB,nA,Bool.false_eq_true,if_true,if_false,reduceIte]) <;> rfl));(case h2=>exact rfl);intro b3 b4;simp only [set34_mk]) | (apply call_ret_34 (hcln) rfl;(case hcl=>(simp only [evs,St.ev,constAV,evl];(repeat (first | exact closeAVs_nil | (apply closeAVs_cons;(first | (refine close_own3 rfl (by decide)) | (refine close_ownO rfl (by decide) ?_;assumption) | rfl | exact (close_T rfl rfl hnb2)))));done));(case hu=>(simp only [evs,St.ev,constAV,evl];(repeat (first | exact used_nil | (apply used_cons;(first | (apply used_own3;rfl) | exact (used_T rfl rfl) | rfl))));done));(case h1=>((simp only [fzl,freezeFrom_keep,nB,nA,Bool.false_eq_true,if_true,if_false,reduceIte]) <;> rfl));(case h2=>exact rfl);intro b3 b4;simp only [set34_mk]) | (apply call_ret_34 (htn) rfl;(case hcl=>(simp only [evs,St.ev,constAV,evl];(repeat (first | exact closeAVs_nil | (apply closeAVs_cons;(first | (refine close_own3 rfl (by decide)) | (refine close_ownO rfl (by decide) ?_;assumption) | rfl | exact (close_T rfl rfl hnb2)))));done));(case hu=>(simp only [evs,St.ev,constAV,evl];(repeat (first | exact used_nil | (apply used_cons;(first | (apply used_own3;rfl) | exact (used_T rfl rfl) | rfl))));done));(case h1=>((simp only [fzl,freezeFrom_keep,nB,nA,Bool.false_eq_true,if_true,if_false,reduceIte]) <;> rfl));(case h2=>exact rfl);intro b3 b4;simp only [set34_mk]))
   refine ⟨_,Fgt.trans (Fgt.freeze [3,4] _) (Fgt.head (h':=[P0,P1,P2,⟨v,77,9,[[.c (.val (.int .i64 (S.n:Int))),.c (.val (.int .i64 (S.m:Int))),.c (encSl 1 fM (colsM S)),.c (vr (rowV S.b)),.c (mnV ms),.own 4 vb,.c (.val (.int .i64 (bu - (O.rem:Int)))),.c (.val (.int .i64 bu)),.c (vr (rowV (xL S O.bs)))]],false,true⟩,⟨vb,3,1,encB fI (intsN O.bs),false,nb⟩,⟨0,30,6,[srC 1 (spreadL S O.bs (xL S O.bs)) (turnTo ms O.y O.y.length) [] O.bs (bu - (O.rem:Int))],true,true⟩]) (show _ <= 6 from Nat.le_of_ble_eq_true rfl) (true :: true :: true :: true :: true :: true :: true :: true :: true :: true :: true :: true :: true :: true :: true :: true :: true :: true :: true :: true :: true :: true :: true :: true :: true :: true :: true :: true :: true :: true :: true :: true :: true :: true :: true :: true :: true :: true :: true :: true :: true :: true :: true :: true :: true :: true :: true :: true :: true :: true :: true :: true :: true :: true :: true :: true :: true :: true :: true :: true :: []) rfl ?hE2),rfl,rfl⟩
   rw [freeze_from];simp only [List.set_cons_succ,List.set_cons_zero,fzl,freezeFrom_keep,nB,nA,Bool.false_eq_true,if_true,if_false,reduceIte]
   first | (simp (disch:=omega) only [hds,liveT,cleanAV,cleanCell,clean1,cleanBlk_mk,reduceIte,iS,iA,iN,q0,q1,q2,srC,vr_nil];done) | rfl
  | some k =>
   rw [hK] at hrun g6
   change OpenC _ _ _ _ (.tup [aV (rowV O.y),aI (k:Int),aV (rowV O.d),aI 0]) _ at hrun
   obtain ⟨ge,gd,_⟩:=step_fin_some hS.toWf hB g6
   obtain ⟨gk,_,_⟩:=enter_some hS.toWf hB ge
   have hdl:O.d.length = S.m:=by rw [gd];exact d_len hS.toWf hB k
   have fd:∀ q ∈ O.d,FitsQ q (4 ^ S.m * (L + 1)):=fun q hq=>by
    rw [gd] at hq
    have hkc:k < S.cols.length:=by have:=hS.cl;omega
    refine fits_sol (wf_turnL (wf_sq hS hB.len)) l1 (hS.cm k gk) (fun q hq=>?_) q hq
    rw [List.getD_eq_getElem?_getD,List.getElem?_eq_getElem hkc] at hq
    exact hS.colf _ (List.getElem_mem hkc) q hq
   have hK1:1 <= 4 ^ S.m * (L + 1):=Nat.mul_pos (Nat.pow_pos (by decide)) (by omega)
   have him:=rint_C (-1) (by omega) (by omega)
   have hi1:=rint_C 1 (by omega) (by omega)
   rw [show ((1:Int):Rat) = 1 from rfl] at hi1
   have hsc:=vscale_R (rowV O.d) (rawQ ((-1:Int):Rat)) S.m (4 ^ S.m * (L + 1)) (fits_rowV (by omega) fd) (fits_rawQ ((FitsQ.neg (fitsQ_one _ hK1)).mono (Nat.le_refl _))) (by omega) hK1 (by omega)
   rw [scale_neg] at hsc
   change PureC _ _ _ (.ret (aV (rowV (scaleL O.d (-1))))) at hsc
   have hscl:(scaleL O.d (-1)).length = S.m:=by unfold scaleL;rw [List.length_map];exact hdl
   have hsr:=spread_P S hn O.bs (rowO (intsN O.bs)) (osl_rowO _) (scaleL O.d (-1)) (by omega) (by omega) (mnV ms) (bu - (O.rem:Int)) bu (vr (rowV (xL S O.bs)))
   generalize hl:scaleL O.d (-1) = sl at hsc hsr hscl
   have hspl:((spreadL S O.bs sl).map rawQ).length = S.n:=by rw [List.length_map,spreadL_len]
   have hsR:(encB fR ((spreadL S O.bs sl).map rawQ)).set k [Cell.c (.val (.bool (rawQ 1).minus)),Cell.c (nr (rawQ 1).size),Cell.c (nr (rawQ 1).den)] = encB fR (((spreadL S O.bs sl).set k 1).map rawQ):=by
    rw [List.map_set];exact encB_set _ k (rawQ 1)
   have hfl:∀ x:RR,(List.map Cell.c (fR x)).length = 3:=fun x=>rfl
   have hdr:∀ x:RR,List.drop 3 (List.map Cell.c (fR x)) = []:=fun x=>rfl
   have e1:secV S ms O bu = .tup [.agg (srC 3 (spreadL S O.bs (xL S O.bs)) [] ((spreadL S O.bs sl).set k 1) O.bs (bu - (O.rem:Int))),aI 0]:=by unfold secV;rw [hE,hK,hl];rfl
   have e2:secR S ms O bu = ⟨0,30,6,[srC 3 (spreadL S O.bs (xL S O.bs)) [] ((spreadL S O.bs sl).set k 1) O.bs (bu - (O.rem:Int))],true,true⟩:=by unfold secR;rw [e1]
   have hne:((spreadL S O.bs sl).set k 1).map rawQ ≠ []:=fun h=>by
    have:=congrArg List.length h
    rw [List.length_map,List.length_set,spreadL_len] at this
    simp at this;omega
   have hnn:true = !(((spreadL S O.bs sl).set k 1).map rawQ).isEmpty:=by
    cases h:((spreadL S O.bs sl).set k 1).map rawQ with
    | nil=>exact absurd h hne
    | cons a t=>rfl
   rw [e1,e2]
   refine openC_of_fgt (rs:=[(RV.cell 4 6 true),(RV.tmp 5)]) Try.func44 (fun a w=>Try.call44 a w) body44 cc44 (by kernel_rfl) ?_
   rw [Try.ntmps44]
   simp only [frs,nA,nS]
   repeat (first | (with_reducible first | refine Way.imp ?_ | refine blk_o rfl ?_) | ((with_reducible refine WayR.imp (fun K hK=>?_));simp (disch:=first | omega | (simp only [dls];omega)) only [std,reduceIte,reduceCtorEq,iT,nA,nS,nM,iA,iS,iM,iN,fU,phIdx_v,hspl,hsR,hfl,hdr,fR];subst hK) | refine zcA (hi0) rfl rfl rfl ?_ | (apply call_open (hrun) rfl rfl) | (apply call_ret_34 (hsx) rfl;(case hcl=>(simp only [evs,St.ev,constAV,evl];(repeat (first | exact closeAVs_nil | (apply closeAVs_cons;(first | (refine close_own3 rfl (by decide)) | (refine close_ownO rfl (by decide) ?_;assumption) | rfl | exact (close_T rfl rfl hnb2)))));done));(case hu=>(simp only [evs,St.ev,constAV,evl];(repeat (first | exact used_nil | (apply used_cons;(first | (apply used_own3;rfl) | exact (used_T rfl rfl) | rfl))));done));(case h1=>((simp only [fzl,freezeFrom_keep,nB,nA,Bool.false_eq_true,if_true,if_false,reduceIte]) <;> rfl));(case h2=>exact rfl);intro b3 b4;simp only [set34_mk]) | (apply call_ret_34 (hcln) rfl;(case hcl=>(simp only [evs,St.ev,constAV,evl];(repeat (first | exact closeAVs_nil | (apply closeAVs_cons;(first | (refine close_own3 rfl (by decide)) | (refine close_ownO rfl (by decide) ?_;assumption) | rfl | exact (close_T rfl rfl hnb2)))));done));(case hu=>(simp only [evs,St.ev,constAV,evl];(repeat (first | exact used_nil | (apply used_cons;(first | (apply used_own3;rfl) | exact (used_T rfl rfl) | rfl))));done));(case h1=>((simp only [fzl,freezeFrom_keep,nB,nA,Bool.false_eq_true,if_true,if_false,reduceIte]) <;> rfl));(case h2=>exact rfl);intro b3 b4;simp only [set34_mk]) | refine zcA (him) rfl rfl rfl ?_ | refine zcA (hi1) rfl rfl rfl ?_ | refine zcA (hsc) rfl rfl rfl ?_ | (apply call_new (hsr) rfl;(case hcl=>(simp only [evs,St.ev,constAV,evl];(repeat (first | exact closeAVs_nil | (apply closeAVs_cons;(first | (refine close_own3 rfl (by decide)) | (refine close_ownO rfl (by decide) ?_;assumption) | rfl | exact (close_T rfl rfl hnb2)))));done));(case hu=>(simp only [evs,St.ev,constAV,evl];(repeat (first | exact used_nil | (apply used_cons;(first | (apply used_own3;rfl) | exact (used_T rfl rfl) | rfl))));done));(case hh=>((simp only [fzl,freezeFrom_keep,nB,nA,Bool.false_eq_true,if_true,if_false,reduceIte]) <;> rfl))))
   refine ⟨_,Fgt.trans (Fgt.trans (Fgt.cells (b:=5) (els':=[srC 3 (spreadL S O.bs (xL S O.bs)) [] ((spreadL S O.bs sl).set k 1) O.bs (bu - (O.rem:Int))]) [7] rfl rfl (.cons (.cons (.inl rfl) (.cons (.inl rfl) (.cons (.inl rfl) (.cons ((clo_ownO (c:=7) rfl (by decide) hnn (by simp)).2 0 _ _ rfl rfl) (.cons (.inl rfl) (.cons (.inl rfl) .nil)))))) .nil)) (Fgt.freeze [3,4] _)) (Fgt.head (h':=[P0,P1,P2,⟨v,77,9,[[.c (.val (.int .i64 (S.n:Int))),.c (.val (.int .i64 (S.m:Int))),.c (encSl 1 fM (colsM S)),.c (vr (rowV S.b)),.c (mnV ms),.own 4 vb,.c (.val (.int .i64 (bu - (O.rem:Int)))),.c (.val (.int .i64 bu)),.c (vr (rowV (xL S O.bs)))]],false,true⟩,⟨vb,3,1,encB fI (intsN O.bs),false,nb⟩,⟨0,30,6,[srC 3 (spreadL S O.bs (xL S O.bs)) [] ((spreadL S O.bs sl).set k 1) O.bs (bu - (O.rem:Int))],true,true⟩]) (show _ <= 6 from Nat.le_of_ble_eq_true rfl) (true :: true :: true :: true :: true :: true :: true :: true :: true :: true :: true :: true :: true :: true :: true :: true :: true :: true :: true :: true :: true :: true :: true :: true :: true :: true :: true :: true :: true :: true :: true :: true :: true :: true :: true :: true :: true :: true :: true :: true :: true :: true :: true :: true :: true :: true :: true :: true :: true :: true :: true :: true :: true :: true :: true :: true :: true :: true :: true :: true :: []) rfl ?hE3),rfl,rfl⟩
   rw [freeze_from];simp only [List.set_cons_succ,List.set_cons_zero,fzl,freezeFrom_keep,nB,nA,Bool.false_eq_true,if_true,if_false,reduceIte]
   first | (simp (disch:=omega) only [hds,liveT,cleanAV,cleanCell,clean1,cleanBlk_mk,reduceIte,iS,iA,iN,q0,q1,q2,srC,vr_nil];done) | rfl
structure PFits (p:PB) (L:Nat):Prop where
 rb:rightB p = true
 af:FitsM p.A 5000 L
 bf:FitsV p.B 5000 L
 cf:∀ r ∈ osl p.C,Fits r L
 l1:1 <= L
 l2:L <= 20000
 l3:4 ^ (osl p.A).length * (L + 1) <= 4000000
 l4:(osl p.A).length * (4 ^ (osl p.A).length * (L + 1) + L + 1) <= 8989000
theorem sgnP_fits {P:PF} {i:Nat} {x:Rat} {L:Nat} (h:FitsQ x L):FitsQ (sgnP P i x) L:=by
 unfold sgnP
 split
 ·exact h.neg
 ·exact h
theorem PFits.sd {p:PB} {L:Nat} (h:PFits p L):SFits (sdB p) L:=by
 obtain ⟨l1,l2,l3,l4⟩:=right_len h.rb
 refine ⟨sd_wf _,l1,l2,fun r hr q hq=>?_,fun q hq=>?_,h.l1,h.l2,h.l3,h.l4⟩
 ·obtain ⟨k,_,rfl⟩:=List.mem_map.1 hr
  obtain ⟨i,_,rfl⟩:=List.mem_map.1 hq
  exact sgnP_fits (((h.af.at i).at k).val h.l1)
 ·obtain ⟨i,_,rfl⟩:=List.mem_map.1 hq
  exact sgnP_fits ((h.bf.at i).val h.l1)
theorem costs_vals (p:PB):valsV p.C = costsP (pfOf p):=by
 refine List.ext_getElem (by rw [vals_len];show _ = (List.map _ _).length;rw [List.length_map,List.length_range];rfl) (fun i h1 h2=>?_)
 have e1:=vals_at p.C i
 rw [List.getD_eq_getElem?_getD,List.getElem?_eq_getElem h1] at e1
 have h3:i < (pfOf p).n:=by rw [vals_len] at h1;exact h1
 have e2:=costs_at (pfOf p) h3
 rw [List.getD_eq_getElem?_getD,List.getElem?_eq_getElem h2] at e2
 exact e1.trans e2.symm
theorem first_zer {P:PF} {bs:List Nat} (hb:COk (sdP P) bs) (h:¬ 0 < dotR (yL (sdP P) (zerosP P) 1 bs) (sdP P).b):Zer (sdP P) bs:=fun j hj hn=>by
 have hw:=sd_wf P
 have hyl:(yL (sdP P) (zerosP P) 1 bs).length = P.m:=y_len hw _ _ hb.toBOk
 have hcost:sumR (sdP P).m (fun j=>costL (sdP P) (zerosP P) 1 (bsF bs j) * lF (xL (sdP P) bs) j) = dotR (yL (sdP P) (zerosP P) 1 bs) (sdP P).b:=by
  rw [dot_b P hyl,price_v hw hb.toBOk (x_sol hw hb.toBOk)]
  rfl
 have hs:sumR (sdP P).m (fun j=>costL (sdP P) (zerosP P) 1 (bsF bs j) * lF (xL (sdP P) bs) j) <= 0:=by rw [hcost];exact Rat.not_lt.1 h
 have:=sumR_all0 (fun j hj=>Rat.mul_nonneg (cost01_nn P _) (hb.pos j hj)) hs j hj
 rw [cost01,if_pos (show P.n <= bsF bs j from hn),Rat.one_mul] at this
 exact this
def O1P (p:PB) (bu:Int):RO:=runL (sdB p) (zerosP (pfOf p)) 1 bu.toNat (bs0P (pfOf p))
def O2P (p:PB) (bu:Int):RO:=runL (sdB p) (valsV p.C) 0 (O1P p bu).rem (clearTo (sdB p) (O1P p bu).bs (osl p.A).length)
def solvV (p:PB) (bu:Int):AV :=
 if (rightB p && decide (0 <= bu)) = false then .tup [aSR0,aI 1] else
 if (O1P p bu).err then .tup [aSR0,aI 10] else
 if 0 < dotR (O1P p bu).y (sdB p).b then .tup [.agg (srC 2 [] (turnTo (minL p) (O1P p bu).y (O1P p bu).y.length) [] (O1P p bu).bs (bu - ((O1P p bu).rem:Int))),aI 0] else
 secV (sdB p) (minL p) (O2P p bu) bu
theorem secV_is (S:SD) (ms:List Bool) (O:RO) (bu:Int):∃ (v:Int) (X Y Ray:List Rat) (bs:List Nat) (st e:Int),secV S ms O bu = .tup [.agg (srC v X Y Ray bs st),aI e] /\ secR S ms O bu = ⟨0,30,6,[srC v X Y Ray bs st],true,true⟩:=by
 cases hE:O.err with
 | true =>
  have e1:secV S ms O bu = .tup [.agg (srC 0 [] [] [] [] 0),aI 10]:=by unfold secV;rw [hE];rfl
  exact ⟨0,[],[],[],[],0,10,e1,by unfold secR;rw [e1]⟩
 | false =>
  cases hK:O.k with
  | none =>
   have e1:secV S ms O bu = .tup [.agg (srC 1 (spreadL S O.bs (xL S O.bs)) (turnTo ms O.y O.y.length) [] O.bs (bu - (O.rem:Int))),aI 0]:=by unfold secV;rw [hE,hK];rfl
   exact ⟨_,_,_,_,_,_,_,e1,by unfold secR;rw [e1]⟩
  | some k =>
   have e1:secV S ms O bu = .tup [.agg (srC 3 (spreadL S O.bs (xL S O.bs)) [] ((spreadL S O.bs (scaleL O.d (-1))).set k 1) O.bs (bu - (O.rem:Int))),aI 0]:=by unfold secV;rw [hE,hK];rfl
   exact ⟨_,_,_,_,_,_,_,e1,by unfold secR;rw [e1]⟩
theorem zeros_ints (n:Nat) (hn:n <= 1000000):PureC Try.prog 20 [.one (.c (encSl 1 fI (some (List.replicate n 0))))] (.ret (aV (rowV (List.replicate n 0)))):=by
 have:=ints_R (List.replicate n 0) (by rw [List.length_replicate];exact hn) (fun k hk=>by rw [(List.mem_replicate.1 hk).2];decide)
 rw [List.map_replicate] at this
 unfold rowV
 rw [List.map_replicate]
 exact this
theorem clean_enc' {α:Type} {f:α -> List CV} {v e:Nat} {ty:TypeId} {l:List α} {x y:Bool}:Pad ⟨v,ty,e,encB f l,x,y⟩:=fun n=>by
 rw [cleanBlk_mk,clean_encB]
abbrev c13:CC:=(.seq (.reg [⟨some 2,none,.box 25 (.tmp 0)⟩,⟨some 4,none,.new 30 [(.int .i64 (0)),(.slice none 0 0),(.slice none 0 0),(.slice none 0 0),(.slice none 0 0),(.int .i64 (0))]⟩,⟨some 5,none,.mv (.const (.int .i64 (0)))⟩]) (.seq (.seq (.reg [⟨some 12,none,.load 3 true (.tmp 2)⟩,⟨some 13,none,.mv (.tmp 1)⟩,⟨some 14,none,.callf (.func 38) [(.tmp 12),(.tmp 13)]⟩,⟨some 15,none,.un .not (.tmp 14)⟩]) (.cond (.tmp 15) (.seq (.reg [⟨some 16,none,.build [(.int .i64 (0)),(.slice none 0 0),(.slice none 0 0),(.slice none 0 0),(.slice none 0 0),(.int .i64 (0))] []⟩,⟨none,none,.store 6 (.tmp 4) (.tmp 16)⟩,⟨some 5,none,.mv (.const (.int .i64 (1)))⟩]) .ret) .skip)) (.seq (.reg [⟨some 17,none,.load 3 true (.tmp 2)⟩,⟨some 18,none,.mv (.tmp 1)⟩,⟨some 19,none,.callf (.func 39) [(.tmp 17),(.tmp 18)]⟩,⟨some 6,none,.mv (.tmp 19)⟩]) (.seq (.reg [⟨some 20,none,.mv (.tmp 6)⟩,⟨some 21,none,.faddr 0 (.tmp 20)⟩,⟨some 22,none,.faddr 0 (.tmp 21)⟩,⟨some 23,none,.load 1 false (.tmp 22)⟩,⟨some 24,none,.make 3 1 8 [(.int .i64 (0))] (.tmp 23) (.tmp 23)⟩,⟨some 25,none,.callf (.func 20) [(.tmp 24)]⟩,⟨some 7,none,.mv (.tmp 25)⟩]) (.seq (.reg [⟨some 27,none,.mv (.tmp 6)⟩,⟨some 28,none,.mv (.tmp 7)⟩,⟨some 29,none,.callf (.func 15) [(.const (.int .i64 (1)))]⟩,⟨some 30,none,.callf (.func 40) [(.tmp 27),(.tmp 28),(.tmp 29)]⟩,⟨some 26,none,.mv (.tmp 30)⟩,⟨some 31,none,.ext (.tmp 26) 0⟩,⟨some 32,none,.ext (.tmp 26) 1⟩,⟨some 33,none,.ext (.tmp 26) 2⟩,⟨some 34,none,.ext (.tmp 26) 3⟩,⟨some 8,none,.mv (.tmp 31)⟩,⟨some 9,none,.mv (.tmp 32)⟩,⟨some 10,none,.mv (.tmp 33)⟩,⟨some 11,none,.mv (.tmp 34)⟩]) (.seq (.seq (.reg [⟨some 35,none,.mv (.tmp 11)⟩,⟨some 36,none,.bin .neq (.tmp 35) (.const (.int .i64 (0)))⟩]) (.cond (.tmp 36) (.seq (.reg [⟨some 37,none,.build [(.int .i64 (0)),(.slice none 0 0),(.slice none 0 0),(.slice none 0 0),(.slice none 0 0),(.int .i64 (0))] []⟩,⟨some 38,none,.mv (.tmp 11)⟩,⟨none,none,.store 6 (.tmp 4) (.tmp 37)⟩,⟨some 5,none,.mv (.tmp 38)⟩]) .ret) .skip)) (.seq (.seq (.reg [⟨some 39,none,.mv (.tmp 8)⟩,⟨some 40,none,.mv (.tmp 6)⟩,⟨some 41,none,.faddr 0 (.tmp 40)⟩,⟨some 42,none,.faddr 3 (.tmp 41)⟩,⟨some 43,none,.load 1 false (.tmp 42)⟩,⟨some 44,none,.callf (.func 18) [(.tmp 39),(.tmp 43)]⟩,⟨some 45,none,.callf (.func 23) [(.tmp 44)]⟩,⟨some 46,none,.bin .gtr (.tmp 45) (.const (.int .i64 (0)))⟩]) (.cond (.tmp 46) (.seq (.reg [⟨some 47,none,.mv (.tmp 6)⟩,⟨some 48,none,.mv (.tmp 8)⟩,⟨some 49,none,.callf (.func 41) [(.tmp 47),(.tmp 48)]⟩,⟨some 50,none,.mv (.tmp 6)⟩,⟨some 51,none,.faddr 0 (.tmp 50)⟩,⟨some 52,none,.faddr 5 (.tmp 51)⟩,⟨some 53,none,.load 1 false (.tmp 52)⟩,⟨some 54,none,.callf (.func 42) [(.tmp 53)]⟩,⟨some 55,none,.mv (.tmp 6)⟩,⟨some 56,none,.faddr 0 (.tmp 55)⟩,⟨some 57,none,.faddr 6 (.tmp 56)⟩,⟨some 58,none,.load 1 false (.tmp 57)⟩,⟨some 59,none,.build [(.int .i64 (0)),(.slice none 0 0),(.slice none 0 0),(.slice none 0 0),(.slice none 0 0),(.int .i64 (0))] [(0,(1,(.const (.int .i64 (2))))),(2,(1,(.tmp 49))),(4,(1,(.tmp 54))),(5,(1,(.tmp 58)))]⟩,⟨none,none,.store 6 (.tmp 4) (.tmp 59)⟩,⟨some 5,none,.mv (.const (.int .i64 (0)))⟩]) .ret) .skip)) (.seq (.reg [⟨some 60,none,.mv (.tmp 6)⟩,⟨some 61,none,.callf (.func 43) [(.tmp 60)]⟩]) (.seq (.reg [⟨some 62,none,.mv (.tmp 6)⟩,⟨some 63,none,.faddr 2 (.tmp 2)⟩,⟨some 64,none,.load 1 false (.tmp 63)⟩,⟨some 65,none,.callf (.func 44) [(.tmp 62),(.tmp 64)]⟩,⟨some 66,none,.ext (.tmp 65) 0⟩,⟨some 67,none,.ext (.tmp 65) 1⟩,⟨none,none,.store 6 (.tmp 4) (.tmp 66)⟩,⟨some 5,none,.mv (.tmp 67)⟩]) .ret)))))))))
theorem cc13:ccode Try.prog [39,40,43,44] (Try.f13.body.getD .skip) = some c13:=by kernel_rfl
theorem body13:Try.f13.body = some (Try.f13.body.getD .skip):=rfl
theorem solve_no (p:PB) (bu:Int) (h:(rightB p && decide (0 <= bu)) = false):PureC Try.prog 13 [aP p,aI bu] (.ret (solvV p bu)):=by
 have hm:=may_C p bu
 unfold solvV
 rw [if_pos h]
 rw [h] at hm
 refine pureC_of (rs:=[(RV.cell 4 6 true),(RV.tmp 5)]) Try.func13 (fun a w=>Try.call13 a w) body13 cc13 (by kernel_rfl) ?_
 rw [Try.ntmps13]
 simp only [frs,nA,nS]
 repeat (first | (with_reducible first | refine Way.imp ?_ | refine blk_o rfl ?_) | ((with_reducible refine WayR.imp (fun K hK=>?_));simp (disch:=first | omega | (simp only [dls];omega)) only [std,reduceIte,reduceCtorEq,iT,nA,nS,nM,iA,iS,iM,iN,fU];subst hK) | refine zcA (hm) rfl rfl rfl ?_)
 exact ⟨_,rfl,rfl⟩
theorem solve_yes (p:PB) (bu:Int) (L:Nat) (hp:PFits p L) (hb0:0 <= bu) (hbu:bu <= 9223372036854775807):PureC Try.prog 13 [aP p,aI bu] (.ret (solvV p bu)):=by
 obtain ⟨l1,l2,l3,l4⟩:=right_len hp.rb
 have hS:=hp.sd
 have hw:=hS.toWf
 have k1:=hp.l1
 have k2:=hp.l2
 have k3:=hp.l3
 have k4:=hp.l4
 have hok:(rightB p && decide (0 <= bu)) = true:=by rw [hp.rb,decide_eq_true hb0];rfl
 have hm:=may_C p bu
 rw [hok] at hm
 have hst:=start_O p L hp.rb hp.af hp.bf hp.l1 (by omega) bu ⟨0,25,3,[[.c (encSl 1 fM p.A),.c (vr p.B),.c (vr p.C)]],true,true⟩ ⟨0,30,6,[[.c (.val (.int .i64 0)),.c (.val (.slice none 0 0)),.c (.val (.slice none 0 0)),.c (.val (.slice none 0 0)),.c (.val (.slice none 0 0)),.c (.val (.int .i64 0))]],true,true⟩ (fun n=>rfl) (fun n=>rfl)
 have hsn:(sdB p).n <= 5000:=l1
 have hz:=zeros_ints (sdB p).n (by omega)
 have hbz:bu - ((bu.toNat:Nat):Int) = 0:=by omega
 have hnb:(!(intsN (bs0P (pfOf p))).isEmpty) = !(intsN (bs0P (pfOf p))).isEmpty:=rfl
 have hc0:=cok0 (pfOf p)
 have hO1:runL (sdB p) (zerosP (pfOf p)) 1 bu.toNat (bs0P (pfOf p)) = O1P p bu:=rfl
 have hzl:(osl (rowV (List.replicate (sdB p).n (0:Rat)))).length = (sdB p).n:=by rw [len_rowV,List.length_replicate]
 have hrun:=fun bb:Bool=>run_O (sdB p) L hS (rowV (List.replicate (sdB p).n 0)) 1 hzl (fun r hr=>by
  rw [osl_rowV] at hr
  obtain ⟨q,hq,rfl⟩:=List.mem_map.1 hr
  rw [(List.mem_replicate.1 hq).2]
  exact fits_rawQ (fitsQ_zero _ k1)) (fitsQ_one _ k1) bu hbu bu.toNat (by omega) (bs0P (pfOf p)) hc0 0 (osl p.A).length _ rfl (mnV (minL p)) (.val (.slice none 0 0)) ⟨0,25,3,[[.c (encSl 1 fM p.A),.c (vr p.B),.c (vr p.C)]],true,true⟩ ⟨0,30,6,[[.c (.val (.int .i64 0)),.c (.val (.slice none 0 0)),.c (.val (.slice none 0 0)),.c (.val (.slice none 0 0)),.c (.val (.slice none 0 0)),.c (.val (.int .i64 0))]],true,true⟩ ⟨0,25,3,[[.c (encSl 1 fM p.A),.c (vr p.B),.c (vr p.C)]],true,true⟩ ⟨0,3,1,encB fI (List.replicate (sdB p).n 0),bb,true⟩ (fun n=>rfl) (fun n=>rfl) (fun n=>rfl) clean_enc' (O1P p bu) (by rw [vals_rowV];exact hO1)
 rw [hbz] at hrun
 have hi1:=rint_C 1 (by omega) (by omega)
 rw [show ((1:Int):Rat) = 1 from rfl] at hi1
 obtain ⟨g1,_,g3,_,g5⟩:=run_spec hw (costs:=zerosP (pfOf p)) (own:=1) (fun _=>True) (fun _ _ _ _ _ _=>trivial) bu.toNat (bs0P (pfOf p)) hc0 trivial
 rw [hO1] at g1 g3 g5
 unfold solvV
 rw [if_neg (by rw [hok];simp)]
 unfold tB at hst hrun
 cases hE:(O1P p bu).err with
 | true =>
  rw [if_pos rfl]
  rw [hE] at hrun
  refine pureC_of (rs:=[(RV.cell 4 6 true),(RV.tmp 5)]) Try.func13 (fun a w=>Try.call13 a w) body13 cc13 (by kernel_rfl) ?_
  rw [Try.ntmps13]
  simp only [frs,nA,nS]
  repeat (first | (with_reducible first | refine Way.imp ?_ | refine blk_o rfl ?_) | ((with_reducible refine WayR.imp (fun K hK=>?_));simp (disch:=first | omega | (simp only [dls];omega)) only [std,reduceIte,reduceCtorEq,iT,nA,nS,nM,iA,iS,iM,iN,fU,repI0];subst hK) | refine zcA (hm) rfl rfl rfl ?_ | (apply call_open (hst) rfl rfl) | (apply call_ret_b 5 (hz) rfl;(case hcl=>(simp only [evs,St.ev,constAV,evl];(repeat (first | exact closeAVs_nil | (apply closeAVs_cons;(first | (refine close_own3 rfl (by decide)) | (refine close_ownO rfl (by decide) ?_;assumption) | rfl))));done));(case hu=>(simp only [evs,St.ev,constAV,evl];(repeat (first | exact used_nil | (apply used_cons;(first | (apply used_own3;rfl) | rfl))));done));(case h1=>((simp only [fzl,freezeFrom_keep,nB,nA,Bool.false_eq_true,if_true,if_false,reduceIte]) <;> rfl));(case h2=>rfl);intro bb;simp only [setLive_zero,setLive_succ]) | refine zcA (hi1) rfl rfl rfl ?_ | (apply call_open ((hrun _)) rfl rfl))
  exact ⟨_,rfl,rfl⟩
 | false =>
  rw [if_neg (by simp)]
  have g6:stepL (sdB p) (zerosP (pfOf p)) 1 (O1P p bu).bs = .fin (O1P p bu).k (O1P p bu).d /\ (O1P p bu).y = yL (sdB p) (zerosP (pfOf p)) 1 (O1P p bu).bs:=by
   rcases g5 with ⟨_,g6,g7⟩ | ⟨g6,_⟩
   ·exact ⟨g6,g7⟩
   ·rw [hE] at g6;cases g6
  obtain ⟨g6,g7⟩:=g6
  have hB:=g1.toBOk
  have hlen:=hB.len
  have hyl:(O1P p bu).y.length = (sdB p).m:=by rw [g7];exact y_len hw _ _ hB
  have hK1:1 <= 4 ^ (sdB p).m * (L + 1):=Nat.mul_pos (Nat.pow_pos (by decide)) (by omega)
  have hk4:(sdB p).m * (4 ^ (sdB p).m * (L + 1) + L + 1) <= 8989000:=k4
  have hk3:4 ^ (sdB p).m * (L + 1) <= 4000000:=k3
  have hsm:(sdB p).m <= 90:=l2
  have fy:∀ q ∈ (O1P p bu).y,FitsQ q (4 ^ (sdB p).m * (L + 1)):=fun q hq=>by
   rw [g7] at hq
   refine fits_sol (wf_sq hS hB.len) k1 (by rw [List.length_map];exact hB.len) (fun q hq=>?_) q hq
   obtain ⟨k,hk,rfl⟩:=List.mem_map.1 hq
   rw [cost01]
   exact fits01 k1 _
  have hsb:(sdB p).b.length = (sdB p).m:=hw.bl
  have vy:=fits_rowV (n:=(sdB p).m) (by omega) fy
  have vb':=fits_rowV (n:=(sdB p).m) (by omega) hS.bf
  have hdot:=dot_W (rowV (O1P p bu).y) (rowV (sdB p).b) (sdB p).m (4 ^ (sdB p).m * (L + 1)) L vy vb' (by omega) hK1 k1 (by omega) (by omega) (by omega) (by omega)
  have hdf:=fits_dotW vy vb' hK1 k1
  rw [dot_rowV] at hdot hdf
  have hsg:=rsign_C (rawQ (dotR (O1P p bu).y (sdB p).b)) (fits_rawQ (hdf.mono (by omega)))
  have hsl:=sgn_low' (dotR (O1P p bu).y (sdB p).b)
  have hnb2:(!(intsN (bs0P (pfOf p))).isEmpty) = !(intsN (O1P p bu).bs).isEmpty:=by
   rw [empt_len,empt_len,intsN_length,intsN_length,hlen,hc0.len]
  have hzer:=fun h=>first_zer (P:=pfOf p) g1 h
  rw [<- g7] at hzer
  rw [hE] at hrun
  generalize hdv:dotR (O1P p bu).y (sdB p).b = dv at hdot hsg hsl hzer
  generalize sgn (rawQ dv).top = z at hsg hsl
  by_cases hpos:0 < dv
  ·rw [if_pos hpos]
   have hz0:¬ z <= 0:=fun h=>absurd (hsl.1 h) (Rat.not_le.2 hpos)
   have hmn:(minL p).length = (sdB p).m:=by show (List.map _ _).length = _;rw [List.length_map,List.length_range];rfl
   have htn:=turn_P (sdB p) (minL p) (O1P p bu).y (4 ^ (sdB p).m * (L + 1)) (by omega) (by omega) fy (by omega) (encSl 1 fI (rowO (intsN (O1P p bu).bs))) (bu - ((O1P p bu).rem:Int)) bu (vr (rowV (xL (sdB p) (O1P p bu).bs)))
   have hcln:=cloneI_R (rowO (intsN (O1P p bu).bs)) (by rw [osl_rowO,intsN_length];omega)
   refine pureC_of (rs:=[(RV.cell 4 6 true),(RV.tmp 5)]) Try.func13 (fun a w=>Try.call13 a w) body13 cc13 (by kernel_rfl) ?_
   rw [Try.ntmps13]
   simp only [frs,nA,nS]
   repeat (first | (with_reducible first | refine Way.imp ?_ | refine blk_o rfl ?_) | ((with_reducible refine WayR.imp (fun K hK=>?_));simp (disch:=first | omega | (simp only [dls];omega)) only [std,reduceIte,reduceCtorEq,iT,nA,nS,nM,iA,iS,iM,iN,fU,repI0];subst hK) | refine zcA (hm) rfl rfl rfl ?_ | (apply call_open (hst) rfl rfl) | (apply call_ret_b 5 (hz) rfl;(case hcl=>(simp only [evs,St.ev,constAV,evl];(repeat (first | exact closeAVs_nil | (apply closeAVs_cons;(first | (refine close_own3 rfl (by decide)) | (refine close_ownO rfl (by decide) ?_;assumption) | rfl))));done));(case hu=>(simp only [evs,St.ev,constAV,evl];(repeat (first | exact used_nil | (apply used_cons;(first | (apply used_own3;rfl) | rfl))));done));(case h1=>((simp only [fzl,freezeFrom_keep,nB,nA,Bool.false_eq_true,if_true,if_false,reduceIte]) <;> rfl));(case h2=>rfl);intro bb;simp only [setLive_zero,setLive_succ]) | refine zcA (hi1) rfl rfl rfl ?_ | (apply call_open ((hrun _)) rfl rfl) | refine zcA (hdot) rfl rfl rfl ?_ | refine zcA (hsg) rfl rfl rfl ?_ | (apply call_ret_34 (htn) rfl;(case hcl=>(simp only [evs,St.ev,constAV,evl];(repeat (first | exact closeAVs_nil | (apply closeAVs_cons;(first | (refine close_own3 rfl (by decide)) | (refine close_ownO rfl (by decide) ?_;assumption) | rfl | exact (close_T rfl rfl hnb2)))));done));(case hu=>(simp only [evs,St.ev,constAV,evl];(repeat (first | exact used_nil | (apply used_cons;(first | (apply used_own3;rfl) | exact (used_T rfl rfl) | rfl))));done));(case h1=>((simp only [fzl,freezeFrom_keep,nB,nA,Bool.false_eq_true,if_true,if_false,reduceIte]) <;> rfl));(case h2=>exact rfl);intro b3 b4;simp only [set34_mk]) | (apply call_ret_34 (hcln) rfl;(case hcl=>(simp only [evs,St.ev,constAV,evl];(repeat (first | exact closeAVs_nil | (apply closeAVs_cons;(first | (refine close_own3 rfl (by decide)) | (refine close_ownO rfl (by decide) ?_;assumption) | rfl | exact (close_T rfl rfl hnb2)))));done));(case hu=>(simp only [evs,St.ev,constAV,evl];(repeat (first | exact used_nil | (apply used_cons;(first | (apply used_own3;rfl) | exact (used_T rfl rfl) | rfl))));done));(case h1=>((simp only [fzl,freezeFrom_keep,nB,nA,Bool.false_eq_true,if_true,if_false,reduceIte]) <;> rfl));(case h2=>exact rfl);intro b3 b4;simp only [set34_mk]))
   exact ⟨_,rfl,rfl⟩
  ·rw [if_neg hpos]
   have hz0:z <= 0:=hsl.2 (Rat.not_lt.1 hpos)
   have hcl:=fun bb:Bool=>clear_O (sdB p) L hS (O1P p bu).bs g1 (hzer hpos) 0 (osl p.A).length _ hnb2 (mnV (minL p)) (bu - ((O1P p bu).rem:Int)) bu (vr (rowV (xL (sdB p) (O1P p bu).bs))) ⟨0,25,3,[[.c (encSl 1 fM p.A),.c (vr p.B),.c (vr p.C)]],true,true⟩ ⟨0,30,6,[[.c (.val (.int .i64 0)),.c (.val (.slice none 0 0)),.c (.val (.slice none 0 0)),.c (.val (.slice none 0 0)),.c (.val (.slice none 0 0)),.c (.val (.int .i64 0))]],true,true⟩ ⟨0,25,3,[[.c (encSl 1 fM p.A),.c (vr p.B),.c (vr p.C)]],true,true⟩ ⟨0,3,1,encB fI (List.replicate (sdB p).n 0),bb,true⟩ (fun n=>rfl) (fun n=>rfl) (fun n=>rfl) clean_enc'
   obtain ⟨c1,c2,c3⟩:=clear_spec hw g1 (hzer hpos) (sdB p).m (Nat.le_refl _)
   have hnb3:(!(intsN (bs0P (pfOf p))).isEmpty) = !(intsN (clearTo (sdB p) (O1P p bu).bs (sdB p).m)).isEmpty:=by
    rw [empt_len,empt_len,intsN_length,intsN_length,c1.len,hc0.len]
   have hmn:(minL p).length = (sdB p).m:=by show (List.map _ _).length = _;rw [List.length_map,List.length_range];rfl
   have hsec:=second_O (sdB p) L hS (minL p) hmn p.C (by rfl) hp.cf bu hbu (O1P p bu).rem (by omega) (clearTo (sdB p) (O1P p bu).bs (sdB p).m) c1 0 (osl p.A).length _ hnb3 (vr (rowV (xL (sdB p) (O1P p bu).bs))) ⟨0,25,3,[[.c (encSl 1 fM p.A),.c (vr p.B),.c (vr p.C)]],true,true⟩ ⟨0,30,6,[[.c (.val (.int .i64 0)),.c (.val (.slice none 0 0)),.c (.val (.slice none 0 0)),.c (.val (.slice none 0 0)),.c (.val (.slice none 0 0)),.c (.val (.int .i64 0))]],true,true⟩ ⟨0,25,3,[[.c (encSl 1 fM p.A),.c (vr p.B),.c (vr p.C)]],true,true⟩ (fun n=>rfl) (fun n=>rfl) (fun n=>rfl) (show 0 < 3 by decide) (show 0 < 6 by decide) (show 0 < 3 by decide) (O2P p bu) rfl
   unfold tB at hcl hsec
   change PureC _ _ _ (.ret (secV (sdB p) (minL p) (O2P p bu) bu))
   obtain ⟨sv,sX,sY,sRay,sbs,sst,se,e1,e2⟩:=secV_is (sdB p) (minL p) (O2P p bu) bu
   rw [e1,e2] at hsec
   rw [e1]
   unfold srC at hsec ⊢
   refine pureC_of (rs:=[(RV.cell 4 6 true),(RV.tmp 5)]) Try.func13 (fun a w=>Try.call13 a w) body13 cc13 (by kernel_rfl) ?_
   rw [Try.ntmps13]
   simp only [frs,nA,nS]
   iterate 56 (first | (with_reducible first | refine Way.imp ?_ | refine blk_o rfl ?_) | ((with_reducible refine WayR.imp (fun K hK=>?_));simp (disch:=first | omega | (simp only [dls];omega)) only [std,reduceIte,reduceCtorEq,iT,nA,nS,nM,iA,iS,iM,iN,fU,repI0];subst hK) | refine zcA (hm) rfl rfl rfl ?_ | (apply call_open (hst) rfl rfl) | (apply call_ret_b 5 (hz) rfl;(case hcl=>(simp only [evs,St.ev,constAV,evl];(repeat (first | exact closeAVs_nil | (apply closeAVs_cons;(first | (refine close_own3 rfl (by decide)) | (refine close_ownO rfl (by decide) ?_;assumption) | rfl))));done));(case hu=>(simp only [evs,St.ev,constAV,evl];(repeat (first | exact used_nil | (apply used_cons;(first | (apply used_own3;rfl) | rfl))));done));(case h1=>((simp only [fzl,freezeFrom_keep,nB,nA,Bool.false_eq_true,if_true,if_false,reduceIte]) <;> rfl));(case h2=>rfl);intro bb;simp only [setLive_zero,setLive_succ]) | refine zcA (hi1) rfl rfl rfl ?_ | (apply call_open ((hrun _)) rfl rfl) | refine zcA (hdot) rfl rfl rfl ?_ | refine zcA (hsg) rfl rfl rfl ?_ | (apply call_open ((hcl _)) rfl rfl))
   refine AWp.fgt ?hA1 (Fgt.head (t':=(.junk :: .junk :: .one (.ptr 0 0 0 0) :: .junk :: .one (.ptr 1 0 0 0) :: aI 0 :: aT 0 :: .junk :: .junk :: .junk :: .junk :: .junk :: .junk :: .junk :: .junk :: .junk :: .junk :: .junk :: .junk :: .junk :: .junk :: .junk :: .junk :: .junk :: .junk :: .junk :: .junk :: .junk :: .junk :: .junk :: .junk :: .junk :: .junk :: .junk :: .junk :: .junk :: .junk :: .junk :: .junk :: .junk :: .junk :: .junk :: .junk :: .junk :: .junk :: .junk :: .junk :: .junk :: .junk :: .junk :: .junk :: .junk :: .junk :: .junk :: .junk :: .junk :: .junk :: .junk :: .junk :: .junk :: .junk :: .junk :: .junk :: .junk :: .junk :: .junk :: .junk :: .junk :: [])) (h':=[⟨0,25,3,[[.c (encSl 1 fM p.A),.c (vr p.B),.c (vr p.C)]],true,true⟩,⟨0,30,6,[[.c (.val (.int .i64 0)),.c (.val (.slice none 0 0)),.c (.val (.slice none 0 0)),.c (.val (.slice none 0 0)),.c (.val (.slice none 0 0)),.c (.val (.int .i64 0))]],true,true⟩,⟨0,25,3,[[.c (encSl 1 fM p.A),.c (vr p.B),.c (vr p.C)]],true,true⟩,⟨0,77,9,[[.c (.val (.int .i64 ((sdB p).n:Int))),.c (.val (.int .i64 ((sdB p).m:Int))),.c (encSl 1 fM (colsM (sdB p))),.c (vr (rowV (sdB p).b)),.c (mnV (minL p)),.own 4 (osl p.A).length,.c (.val (.int .i64 (bu - ((O1P p bu).rem:Int)))),.c (.val (.int .i64 bu)),.c (vr (rowV (xL (sdB p) (O1P p bu).bs)))]],true,true⟩,⟨(osl p.A).length,3,1,encB fI (intsN (clearTo (sdB p) (O1P p bu).bs (sdB p).m)),true,!(intsN (bs0P (pfOf p))).isEmpty⟩]) (show _ <= 5 from Nat.le_of_ble_eq_true rfl) [false,false,true,false,true,true,true] ?hT1 ?hH1)
   case hT1=>first | (simp (disch:=omega) only [hds,liveT,cleanAV,cleanCell,clean1,cleanBlk_mk,reduceIte,iS,iA,iN];done) | rfl
   case hH1=>first | (simp (disch:=omega) only [hds,liveT,cleanAV,cleanCell,clean1,cleanBlk_mk,reduceIte,iS,iA,iN];done) | rfl
   repeat (first | (with_reducible first | refine Way.imp ?_ | refine blk_o rfl ?_) | ((with_reducible refine WayR.imp (fun K hK=>?_));simp (disch:=first | omega | (simp only [dls];omega)) only [std,reduceIte,reduceCtorEq,iT,nA,nS,nM,iA,iS,iM,iN,fU];subst hK) | (apply call_open (hsec) rfl rfl))
   exact ⟨_,rfl,rfl⟩
theorem qAt_far {b:VV} {i:Nat} (h:(osl b).length <= i):qAt b i = 0:=by
 unfold qAt rAt
 rw [List.getD_eq_getElem?_getD,List.getElem?_eq_none_iff.2 h]
 exact zR_val
theorem turnTo_is {p:PB} (hb:(osl p.B).length = (osl p.A).length) (l:List Rat):turnTo (minL p) l l.length = turnsP (pfOf p) l:=by
 unfold turnTo turnsP
 refine List.map_congr_left (fun i _=>?_)
 unfold sgnP
 show (if (minTo p (osl p.A).length).getD i false then _ else _) = if qAt p.B i < 0 then _ else _
 by_cases hi:i < (osl p.A).length
 ·have e1:(minTo p (osl p.A).length).getD i false = decide (qAt p.B i < 0):=getD_mapR _ _ i false hi
  rw [e1]
  by_cases h:qAt p.B i < 0
  ·rw [if_pos h,decide_eq_true h,if_pos rfl]
  ·rw [if_neg h,decide_eq_false h,if_neg (by simp)]
 ·have e1:(minTo p (osl p.A).length).getD i false = false:=by
   rw [List.getD_eq_getElem?_getD,List.getElem?_eq_none_iff.2 (by unfold minTo;rw [List.length_map,List.length_range];omega)]
   rfl
  rw [e1,qAt_far (by omega),if_neg (by simp),if_neg (by decide)]
def srV (r:SR) (st:Int):AV:=.tup [.agg (srC r.v r.X r.Y r.Ray r.bs st),aI 0]
theorem solvV_is {p:PB} {bu:Int} (hr:rightB p = true) (h0:0 <= bu):solvV p bu = match solveP (pfOf p) bu.toNat with
  | none=>.tup [aSR0,aI 10]
  | some r=>srV r (bu - (r.rem:Int)):=by
 obtain ⟨l1,l2,l3,l4⟩:=right_len hr
 have hok:(rightB p && decide (0 <= bu)) = true:=by rw [hr,decide_eq_true h0];rfl
 unfold solvV solveP
 rw [if_neg (by rw [hok];simp)]
 have e1:O1P p bu = runL (sdP (pfOf p)) (zerosP (pfOf p)) 1 bu.toNat (bs0P (pfOf p)):=rfl
 rw [<- e1]
 cases hE:(O1P p bu).err with
 | true=>rfl
 | false =>
  rw [if_neg (show ¬ false = true by simp),if_neg (show ¬ false = true by simp)]
  by_cases hp:0 < dotR (O1P p bu).y (sdB p).b
  ·rw [if_pos hp,if_pos hp,turnTo_is l3]
   rfl
  ·rw [if_neg hp,if_neg hp]
   have e2:O2P p bu = runL (sdP (pfOf p)) (costsP (pfOf p)) 0 (O1P p bu).rem (clearTo (sdP (pfOf p)) (O1P p bu).bs (pfOf p).m):=by unfold O2P;rw [costs_vals];rfl
   unfold secondP secV
   rw [<- e2]
   cases hE2:(O2P p bu).err with
   | true=>rfl
   | false =>
    rw [if_neg (show ¬ false = true by simp),if_neg (show ¬ false = true by simp)]
    unfold endO endR
    cases hK:(O2P p bu).k with
    | none=>dsimp only;rw [turnTo_is l3];rfl
    | some k=>rfl
theorem solve_is (p:PB) (L:Nat) (hp:PFits p L):∃ (r:SR) (T:Nat),T < 2 * chP (pfOf p) /\ Prov (pfOf p) r /\ (r.v = 2 \/ Crn (pfOf p) r.X) /\ r.bs.length = (osl p.A).length /\
  ∀ bu:Int,0 <= bu -> bu <= 9223372036854775807 -> PureC Try.prog 13 [aP p,aI bu] (.ret (if (T:Int) <= bu then srV r T else .tup [aSR0,aI 10])):=by
 obtain ⟨r,T,h1,h2,h3,h4,h5⟩:=solve_main (pfOf p)
 refine ⟨r,T,by omega,h2,h3,h4,fun bu b0 b1=>?_⟩
 have:=solve_yes p bu L hp b0 b1
 rw [solvV_is hp.rb b0,h5] at this
 by_cases hT:(T:Int) <= bu
 ·rw [if_pos (by omega)] at this
  rw [if_pos hT]
  have e:bu - ((bu.toNat - T:Nat):Int) = T:=by omega
  dsimp only at this
  rw [e] at this
  exact this
 ·rw [if_neg (by omega)] at this
  rw [if_neg hT]
  exact this
theorem solve_neg (p:PB) (bu:Int) (h:bu < 0):PureC Try.prog 13 [aP p,aI bu] (.ret (.tup [aSR0,aI 1])):=by
 have h0:(rightB p && decide (0 <= bu)) = false:=by rw [decide_eq_false (by omega),Bool.and_false]
 have:=solve_no p bu h0
 unfold solvV at this
 rw [if_pos h0] at this
 exact this
theorem pfits_few {p:PB} (h:fewP p = true) (hr:rightB p = true):PFits p 3:=by
 obtain ⟨⟨f1,f2,f3⟩,f4⟩:=fewP_fits h
 have f5:∀ m,m <= 4 -> 4 ^ m * (3 + 1) <= 4000000 /\ m * (4 ^ m * (3 + 1) + 3 + 1) <= 8989000:=by decide
 exact ⟨hr,⟨by have:=f1.1;omega,fun v hv=>⟨by have:=(f1.2 v hv).1;omega,(f1.2 v hv).2⟩⟩,⟨by have:=f2.1;omega,f2.2⟩,f3.2,by decide,by decide,(f5 _ f4).1,(f5 _ f4).2⟩
theorem steps_few {p:PB} (hm:(osl p.A).length <= 4) (hn:(osl p.C).length <= 8) {T:Nat} (h:T < 2 * chP (pfOf p)):T <= 65536:=by
 have:chP (pfOf p) <= 495:=ch_simplex _ hm _ hn
 omega
theorem spread_mem {n:Nat} {bs:List Nat} {l:List Rat}:∀ (i:Nat) (q:Rat),q ∈ spreadTo n bs l i -> q = 0 \/ q ∈ l
 | 0,q,h=>by
  unfold spreadTo at h
  exact .inl (List.mem_replicate.1 h).2
 | i + 1,q,h=>by
  unfold spreadTo at h
  split at h
  ·rcases List.mem_or_eq_of_mem_set h with h1 | h1
   ·exact spread_mem i q h1
   ·rw [h1,List.getD_eq_getElem?_getD]
    cases hl:l[i]? with
    | none=>exact .inl rfl
    | some x=>exact .inr (List.mem_of_getElem? hl)
  ·exact spread_mem i q h
def FAll (l:List Rat) (K:Nat):Prop:=∀ q ∈ l,FitsQ q K
theorem fall_nil (K:Nat):FAll [] K:=fun q h=>by cases h
theorem fall_spread {S:SD} {bs:List Nat} {l:List Rat} {K:Nat} (h:FAll l K) (hK:1 <= K):FAll (spreadL S bs l) K:=fun q hq=>by
 rcases spread_mem _ q hq with h1 | h1
 ·rw [h1];exact fitsQ_zero _ hK
 ·exact h q h1
theorem fall_turns {P:PF} {l:List Rat} {K:Nat} (h:FAll l K):FAll (turnsP P l) K:=fun q hq=>by
 unfold turnsP at hq
 obtain ⟨i,hi,rfl⟩:=List.mem_map.1 hq
 have hi':=List.mem_range.1 hi
 refine sgnP_fits (h _ ?_)
 rw [List.getD_eq_getElem?_getD,List.getElem?_eq_getElem hi']
 exact List.getElem_mem hi'
theorem fall_neg {l:List Rat} {K:Nat} (h:FAll l K):FAll (scaleL l (-1)) K:=fun q hq=>by
 unfold scaleL at hq
 obtain ⟨x,hx,rfl⟩:=List.mem_map.1 hq
 have:x * -1 = -x:=by grind
 rw [this]
 exact (h x hx).neg
theorem fits_run {S:SD} {L:Nat} (hS:SFits S L) {costs:List Rat} {own:Rat} (hc:FAll costs L) (ho:FitsQ own L) {bs:List Nat} (hb:COk S bs) (rem:Nat) (he:(runL S costs own rem bs).err = false) :
  FAll (xL S (runL S costs own rem bs).bs) (4 ^ S.m * (L + 1)) /\ FAll (runL S costs own rem bs).y (4 ^ S.m * (L + 1)) /\ FAll (runL S costs own rem bs).d (4 ^ S.m * (L + 1)):=by
 obtain ⟨g1,_,g3,_,g5⟩:=run_spec hS.toWf (costs:=costs) (own:=own) (fun _=>True) (fun _ _ _ _ _ _=>trivial) rem bs hb trivial
 have hB:=g1.toBOk
 generalize runL S costs own rem bs = O at *
 rcases g5 with ⟨_,g6,g7⟩ | ⟨g6,_⟩
 ·refine ⟨fun q hq=>fits_sol (wf_turnL (wf_sq hS hB.len)) hS.l1 hS.bl hS.bf q hq,fun q hq=>?_,fun q hq=>?_⟩
  ·rw [g7] at hq
   refine fits_sol (wf_sq hS hB.len) hS.l1 (by rw [List.length_map];exact hB.len) (fun q hq=>?_) q hq
   obtain ⟨k,hk,rfl⟩:=List.mem_map.1 hq
   unfold costL
   split
   ·exact ho
   ·rw [List.getD_eq_getElem?_getD]
    cases hl:costs[k]? with
    | none=>exact fitsQ_zero _ hS.l1
    | some x=>exact hc x (List.mem_of_getElem? hl)
  ·cases hk:O.k with
   | none =>
    rw [hk] at g6
    rw [(step_fin_none g6).2] at hq
    cases hq
   | some k =>
    rw [hk] at g6
    obtain ⟨ge,gd,_⟩:=step_fin_some hS.toWf hB g6
    obtain ⟨gk,_,_⟩:=enter_some hS.toWf hB ge
    rw [gd] at hq
    have hkc:k < S.cols.length:=by have:=hS.cl;omega
    refine fits_sol (wf_turnL (wf_sq hS hB.len)) hS.l1 (hS.cm k gk) (fun q hq=>?_) q hq
    rw [List.getD_eq_getElem?_getD,List.getElem?_eq_getElem hkc] at hq
    exact hS.colf _ (List.getElem_mem hkc) q hq
 ·rw [he] at g6;cases g6
theorem fits_second {P:PF} {L:Nat} (hS:SFits (sdP P) L) (hc:FAll (costsP P) L) {bs:List Nat} (hb:COk (sdP P) bs) {rem:Nat} {r:SR} (h:secondP P rem bs = some r) :
  FAll r.X (4 ^ P.m * (L + 1)) /\ FAll r.Y (4 ^ P.m * (L + 1)) /\ FAll r.Ray (4 ^ P.m * (L + 1)):=by
 have hK:1 <= 4 ^ P.m * (L + 1):=Nat.mul_pos (Nat.pow_pos (by decide)) (by omega)
 unfold secondP at h
 split at h
 ·cases h
 ·rename_i he
  have he':(runL (sdP P) (costsP P) 0 rem bs).err = false:=by simpa using he
  obtain ⟨f1,f2,f3⟩:=fits_run hS hc (fitsQ_zero _ hS.l1) hb rem he'
  cases h
  unfold endO endR
  cases (runL (sdP P) (costsP P) 0 rem bs).k with
  | none=>exact ⟨fall_spread f1 hK,fall_turns f2,fall_nil _⟩
  | some k =>
   refine ⟨fall_spread f1 hK,fall_nil _,fun q hq=>?_⟩
   rcases List.mem_or_eq_of_mem_set hq with h1 | h1
   ·exact fall_spread (fall_neg f3) hK q h1
   ·rw [h1];exact fitsQ_one _ hK
theorem fits_solve {P:PF} {L:Nat} (hS:SFits (sdP P) L) (hc:FAll (costsP P) L) {rem:Nat} {r:SR} (h:solveP P rem = some r) :
  FAll r.X (4 ^ P.m * (L + 1)) /\ FAll r.Y (4 ^ P.m * (L + 1)) /\ FAll r.Ray (4 ^ P.m * (L + 1)):=by
 have hw:=sd_wf P
 have hb:=cok0 P
 have hz:FAll (zerosP P) L:=fun q hq=>by rw [(List.mem_replicate.1 hq).2];exact fitsQ_zero _ hS.l1
 obtain ⟨g1,_,g3,_,g5⟩:=run_spec hw (costs:=zerosP P) (own:=1) (fun _=>True) (fun _ _ _ _ _ _=>trivial) rem (bs0P P) hb trivial
 unfold solveP at h
 split at h
 ·cases h
 ·rename_i he
  have he':(runL (sdP P) (zerosP P) 1 rem (bs0P P)).err = false:=by simpa using he
  obtain ⟨f1,f2,f3⟩:=fits_run hS hz (fitsQ_one _ hS.l1) hb rem he'
  rcases g5 with ⟨_,g6,g7⟩ | ⟨g6,_⟩
  ·split at h
   ·cases h
    exact ⟨fall_nil _,fall_turns f2,fall_nil _⟩
   ·rename_i hp
    rw [g7] at hp
    obtain ⟨c1,_,_⟩:=clear_spec hw g1 (first_zer g1 hp) P.m (Nat.le_refl _)
    exact fits_second hS hc c1 h
  ·rw [he'] at g6;cases g6
structure Told (p:PB) (K:Nat) (r:SR) (T:Nat):Prop where
 steps:T < 2 * chP (pfOf p)
 prov:Prov (pfOf p) r
 crn:r.v = 2 \/ Crn (pfOf p) r.X
 blen:r.bs.length = (osl p.A).length
 fx:FAll r.X K
 fy:FAll r.Y K
 fr:FAll r.Ray K
 call:∀ bu:Int,0 <= bu -> bu <= 9223372036854775807 -> PureC Try.prog 13 [aP p,aI bu] (.ret (if (T:Int) <= bu then srV r T else .tup [aSR0,aI 10]))
theorem told (p:PB) (L:Nat) (hp:PFits p L):∃ r T,Told p (4 ^ (osl p.A).length * (L + 1)) r T:=by
 obtain ⟨r,T,h1,h2,h3,h4,h5⟩:=solve_main (pfOf p)
 have hc:FAll (costsP (pfOf p)) L:=by
  rw [<- costs_vals]
  exact vals_fits (n:=(osl p.C).length) ⟨Nat.le_refl _,hp.cf⟩ hp.l1
 have hT:=h5 T
 rw [if_pos (Nat.le_refl _)] at hT
 obtain ⟨f1,f2,f3⟩:=fits_solve (P:=pfOf p) hp.sd hc hT
 refine ⟨r,T,by omega,h2,h3,h4,f1,f2,f3,fun bu b0 b1=>?_⟩
 have:=solve_yes p bu L hp b0 b1
 rw [solvV_is hp.rb b0,h5] at this
 by_cases hT:(T:Int) <= bu
 ·rw [if_pos (by omega)] at this
  rw [if_pos hT]
  have e:bu - ((bu.toNat - T:Nat):Int) = T:=by omega
  dsimp only at this
  rw [e] at this
  exact this
 ·rw [if_neg (by omega)] at this
  rw [if_neg hT]
  exact this
def aw12:PB:=⟨some [some [rawQ 1,rawQ 1]],some [rawQ 3],some [rawQ (-1),rawQ 0]⟩
theorem aw12_right:rightB aw12 = true:=by decide +kernel
theorem aw12_few:fewP aw12 = true:=by decide +kernel
theorem aw12_told {r:SR} (h:Prov (pfOf aw12) r):r.v = 1 /\ r.X = [3,0] /\ r.Y = [-1]:=by
 have a0:(pfOf aw12).a 0 0 = 1:=rawQ_val 1
 have a1:(pfOf aw12).a 0 1 = 1:=rawQ_val 1
 have b0:(pfOf aw12).b 0 = 3:=rawQ_val 3
 have c0:(pfOf aw12).c 0 = -1:=rawQ_val (-1)
 have c1:(pfOf aw12).c 1 = 0:=rawQ_val 0
 have hrow:∀ x,rowX (pfOf aw12) x 0 = lF x 0 + lF x 1:=fun x=>by
  show sumR 2 _ = _
  simp only [sumR,a0,a1];grind
 have hcol:∀ y k,k < 2 -> colY (pfOf aw12) y k = lF y 0:=fun y k hk=>by
  show sumR 1 _ = _
  have:k = 0 \/ k = 1:=by omega
  rcases this with rfl | rfl
  ·simp only [sumR,a0];grind
  ·simp only [sumR,a1];grind
 have hyb:∀ y,ybP (pfOf aw12) y = lF y 0 * 3:=fun y=>by
  show sumR 1 _ = _
  simp only [sumR,b0];grind
 have hcx:∀ x,cxP (pfOf aw12) x = -(lF x 0):=fun x=>by
  show sumR 2 _ = _
  simp only [sumR,c0,c1];grind
 rcases h with ⟨h1,⟨x1,x2,x3⟩,y1,y2,y3,_⟩ | ⟨_,_,_,_,y2,y3⟩ | ⟨_,_,_,_,x2,x3,x4⟩
 ·have e1:=x3 0 (by decide)
  have e2:=x2 0 (by decide)
  have e3:=x2 1 (by decide)
  have e4:=y2 0 (by decide)
  rw [hrow,b0] at e1
  rw [hcol _ 0 (by decide),c0] at e4
  rw [hyb,hcx] at y3
  have f1:lF r.X 1 = 0:=by grind
  have f2:lF r.X 0 = 3:=by grind
  have f3:lF r.Y 0 = -1:=by grind
  refine ⟨h1,?_,?_⟩
  ·generalize r.X = X at *
   match X,x1 with
   | [a,b],_=>exact congr (congrArg List.cons (show a = 3 from f2)) (congrArg (fun z=>[z]) (show b = 0 from f1))
  ·generalize r.Y = Y at *
   match Y,y1 with
   | [a],_=>exact congrArg (fun z=>[z]) (show a = -1 from f3)
 ·exfalso
  have e4:=y2 0 (by decide)
  rw [hcol _ 0 (by decide)] at e4
  rw [hyb] at y3
  grind
 ·exfalso
  have e1:=x3 0 (by decide)
  have e2:=x2 0 (by decide)
  have e3:=x2 1 (by decide)
  rw [hrow] at e1
  rw [hcx] at x4
  grind
abbrev c14:CC:=(.seq (.reg [⟨some 4,none,.mv (.const (.bool false))⟩]) (.seq (.reg [⟨some 5,none,.mv (.tmp 0)⟩,⟨some 6,none,.mv (.tmp 1)⟩,⟨some 7,none,.callf (.func 45) [(.tmp 5),(.tmp 6),(.func 46)]⟩,⟨some 4,none,.mv (.tmp 7)⟩]) .ret))
theorem cc14:ccode Try.prog [] (Try.f14.body.getD .skip) = some c14:=by kernel_rfl
theorem body14:Try.f14.body = some (Try.f14.body.getD .skip):=rfl
theorem vsame_C (a b:VV) (n L:Nat) (ha:FitsV a n L) (hb:FitsV b n L) (hn:n <= 1000000) (hL2:L <= 1000000):PureC Try.prog 14 [aV a,aV b] (.ret (aB (sameQ a b))):=by
 have he:=equalf_C a b n L ha hb hn hL2
 refine pureC_of (rs:=[(RV.tmp 4)]) Try.func14 (fun a w=>Try.call14 a w) body14 cc14 (by kernel_rfl) ?_
 rw [Try.ntmps14]
 simp only [frs,nA,nS]
 repeat (first | (with_reducible first | refine Way.imp ?_ | refine blk_o rfl ?_) | ((with_reducible refine WayR.imp (fun K hK=>?_));simp (disch:=first | omega | (simp only [dls];omega)) only [std,reduceIte,reduceCtorEq,iT,nA,nS,nM,iA,iS,iM,iN,fU];subst hK) | refine zcA (he) rfl rfl rfl ?_)
 exact ⟨_,rfl,rfl⟩
def zeroTo (a:VV) (k:Nat):Bool:=(List.range k).all fun i=>decide (qAt a i = 0)
def zeroQ (a:VV):Bool:=zeroTo a (osl a).length
theorem zeroTo_succ (a:VV) (k:Nat):zeroTo a (k + 1) = (zeroTo a k && decide (qAt a k = 0)):=by
 unfold zeroTo;rw [List.range_succ,List.all_append];simp
theorem zeroTo_false {a:VV} {k m:Nat} (hk:k < m) (h:qAt a k ≠ 0):zeroTo a m = false:=by
 unfold zeroTo
 rw [List.all_eq_false]
 exact ⟨k,List.mem_range.2 hk,by simpa using h⟩
def firstNZ (a:VV):Int:=match (List.range (osl a).length).find? (fun i=>!decide (qAt a i = 0)) with | some i=>(i:Int) | none=>-1
theorem firstNZ_none {a:VV} (h:zeroTo a (osl a).length = true):firstNZ a = -1:=by
 unfold firstNZ
 have:(List.range (osl a).length).find? (fun i=>!decide (qAt a i = 0)) = none:=by
  rw [List.find?_eq_none]
  intro i hi
  have:=List.all_eq_true.1 h i hi
  simpa using this
 rw [this]
theorem firstNZ_some {a:VV} {k:Nat} (hk:k < (osl a).length) (hz:zeroTo a k = true) (h:qAt a k ≠ 0):firstNZ a = k:=by
 unfold firstNZ
 have:(List.range (osl a).length).find? (fun i=>!decide (qAt a i = 0)) = some k:=by
  rw [List.find?_range_eq_some]
  refine ⟨by simpa using h,List.mem_range.2 hk,fun i hi=>?_⟩
  have:=List.all_eq_true.1 hz i (List.mem_range.2 hi)
  simpa using this
 rw [this]
abbrev c86_k1:CC:=(.seq (.reg [⟨some 4,none,.mv (.const (.int .i64 (-1)))⟩]) .ret)
abbrev c86_b1:CC:=(.seq (.reg [⟨some 9,none,.bin .lss (.tmp 8) (.tmp 7)⟩]) (.seq (.cond (.tmp 9) .skip (.exit 0)) (.seq (.block 1 (.seq (.reg [⟨some 10,none,.mv (.tmp 8)⟩,⟨some 5,none,.mv (.tmp 10)⟩]) (.seq (.reg [⟨some 11,none,.mv (.tmp 1)⟩,⟨some 12,none,.mv (.tmp 0)⟩,⟨some 13,none,.mv (.tmp 5)⟩,⟨some 14,none,.iaddr 3 none (.tmp 12) (.tmp 13)⟩,⟨some 15,none,.load 3 true (.tmp 14)⟩,⟨some 16,none,.callf (.tmp 11) [(.tmp 15)]⟩]) (.cond (.tmp 16) (.seq (.reg [⟨some 17,none,.mv (.tmp 5)⟩,⟨some 4,none,.mv (.tmp 17)⟩]) .ret) .skip)))) (.reg [⟨some 18,none,.bin .add (.tmp 8) (.const (.int .i64 (1)))⟩,⟨some 8,none,.mv (.tmp 18)⟩]))))
abbrev c86:CC:=(.seq (.reg [⟨some 4,none,.mv (.const (.int .i64 (0)))⟩]) (.seq (.seq (.reg [⟨some 6,none,.mv (.tmp 0)⟩,⟨some 7,none,.len false (.tmp 6)⟩,⟨some 8,none,.mv (.const (.int .i64 (0)))⟩]) (.block 0 (.loop c86_b1))) c86_k1))
theorem cc86:ccode Try.prog [] (Try.f86.body.getD .skip) = some c86:=by kernel_rfl
theorem body86:Try.f86.body = some (Try.f86.body.getD .skip):=rfl
theorem litP2 (x y:Int):[[Cell.c (.val (.int .i64 x))],[Cell.c (.val (.int .i64 y))]] = encB fI [x,y]:=rfl
theorem litP1 (x:Int):[[Cell.c (.val (.int .i64 x))]] = encB fI [x]:=rfl
abbrev c12:CC:=(.seq (.reg [⟨some 0,none,.mv (.const (.bool false))⟩]) (.seq (.reg [⟨some 4,none,.mkrow 3 1 [(.const (.int .i64 (1))),(.const (.int .i64 (1)))]⟩,⟨some 5,none,.callf (.func 20) [(.tmp 4)]⟩,⟨some 6,none,.mkrow 23 1 [(.tmp 5)]⟩,⟨some 7,none,.mkrow 3 1 [(.const (.int .i64 (3)))]⟩,⟨some 8,none,.callf (.func 20) [(.tmp 7)]⟩,⟨some 9,none,.mkrow 3 1 [(.const (.int .i64 (-1))),(.const (.int .i64 (0)))]⟩,⟨some 10,none,.callf (.func 20) [(.tmp 9)]⟩,⟨some 11,none,.build [(.slice none 0 0),(.slice none 0 0),(.slice none 0 0)] [(0,(1,(.tmp 6))),(1,(1,(.tmp 8))),(2,(1,(.tmp 10)))]⟩,⟨some 12,none,.callf (.func 13) [(.tmp 11),(.const (.int .i64 (65536)))]⟩,⟨some 3,none,.mv (.tmp 12)⟩,⟨some 13,none,.ext (.tmp 3) 0⟩,⟨some 14,none,.ext (.tmp 3) 1⟩,⟨some 1,none,.new 30 [(.int .i64 (0)),(.slice none 0 0),(.slice none 0 0),(.slice none 0 0),(.slice none 0 0),(.int .i64 (0))]⟩,⟨none,none,.store 6 (.tmp 1) (.tmp 13)⟩,⟨some 2,none,.mv (.tmp 14)⟩]) (.seq (.reg [⟨some 15,none,.mv (.tmp 2)⟩,⟨some 16,none,.bin .eql (.tmp 15) (.const (.int .i64 (0)))⟩,⟨some 17,none,.mv (.tmp 16)⟩,⟨some 18,(some (17,true)),.faddr 0 (.tmp 1)⟩,⟨some 19,(some (17,true)),.load 1 false (.tmp 18)⟩,⟨some 20,(some (17,true)),.bin .eql (.tmp 19) (.const (.int .i64 (1)))⟩,⟨some 21,none,.pick (.tmp 17) (.tmp 20) (.const (.bool false))⟩,⟨some 22,none,.mv (.tmp 21)⟩,⟨some 23,(some (22,true)),.faddr 1 (.tmp 1)⟩,⟨some 24,(some (22,true)),.load 1 false (.tmp 23)⟩,⟨some 25,(some (22,true)),.mkrow 3 1 [(.const (.int .i64 (3))),(.const (.int .i64 (0)))]⟩,⟨some 26,(some (22,true)),.callf (.func 20) [(.tmp 25)]⟩,⟨some 27,(some (22,true)),.callf (.func 14) [(.tmp 24),(.tmp 26)]⟩,⟨some 28,none,.pick (.tmp 22) (.tmp 27) (.const (.bool false))⟩,⟨some 29,none,.mv (.tmp 28)⟩,⟨some 30,(some (29,true)),.faddr 2 (.tmp 1)⟩,⟨some 31,(some (29,true)),.load 1 false (.tmp 30)⟩,⟨some 32,(some (29,true)),.mkrow 3 1 [(.const (.int .i64 (-1)))]⟩,⟨some 33,(some (29,true)),.callf (.func 20) [(.tmp 32)]⟩,⟨some 34,(some (29,true)),.callf (.func 14) [(.tmp 31),(.tmp 33)]⟩,⟨some 35,none,.pick (.tmp 29) (.tmp 34) (.const (.bool false))⟩,⟨some 0,none,.mv (.tmp 35)⟩]) .ret)))
theorem cc12:ccode Try.prog [] (Try.f12.body.getD .skip) = some c12:=by kernel_rfl
theorem body12:Try.f12.body = some (Try.f12.body.getD .skip):=rfl
theorem awake12_C:PureC Try.prog 12 [] (.ret (aB true)):=by
 have i1:=ints_R [1,1] (by decide) (by decide)
 have i2:=ints_R [3] (by decide) (by decide)
 have i3:=ints_R [-1,0] (by decide) (by decide)
 have i4:=ints_R [3,0] (by decide) (by decide)
 have i5:=ints_R [-1] (by decide) (by decide)
 change PureC _ _ _ (.ret (aV (some [rawQ 1,rawQ 1]))) at i1
 change PureC _ _ _ (.ret (aV (some [rawQ 3]))) at i2
 change PureC _ _ _ (.ret (aV (some [rawQ (-1),rawQ 0]))) at i3
 change PureC _ _ _ (.ret (aV (some [rawQ 3,rawQ 0]))) at i4
 change PureC _ _ _ (.ret (aV (some [rawQ (-1)]))) at i5
 have f1:FitsV (some [rawQ 3,rawQ 0]) 2 2:=⟨by decide,fun r hr=>by
  rcases List.mem_cons.1 hr with rfl | hr
  ·exact fits_rawQ (fits_int 3 (by decide) (by decide))
  ·rw [List.mem_singleton.1 hr];exact fits_rawQ (fits_int 0 (by decide) (by decide))⟩
 have f2:FitsV (some [rawQ (-1)]) 2 2:=⟨by decide,fun r hr=>by
  rw [List.mem_singleton.1 hr];exact fits_rawQ (fits_int (-1) (by decide) (by decide))⟩
 have s1:=vsame_C _ _ 2 2 f1 f1 (by decide) (by decide)
 rw [same_of rfl (fun k _=>rfl)] at s1
 have s2:=vsame_C _ _ 2 2 f2 f2 (by decide) (by decide)
 rw [same_of rfl (fun k _=>rfl)] at s2
 obtain ⟨r,T,ht⟩:=told aw12 3 (pfits_few aw12_few aw12_right)
 have hT:=steps_few (p:=aw12) (by decide) (by decide) ht.steps
 obtain ⟨e1,e2,e3⟩:=aw12_told ht.prov
 have hs:=ht.call 65536 (by decide) (by decide)
 rw [if_pos (by omega)] at hs
 unfold srV srC at hs
 rw [e1,e2,e3] at hs
 change PureC _ _ _ (.ret (.tup [.agg [.c (.val (.int .i64 1)),.c (vr (some [rawQ 3,rawQ 0])),.c (vr (some [rawQ (-1)])),.c (vr (rowV r.Ray)),.c (encSl 1 fI (rowO (intsN r.bs))),.c (.val (.int .i64 T))],aI 0])) at hs
 unfold aw12 at hs
 clear ht f1 f2
 generalize vr (rowV r.Ray) = cr at hs
 generalize encSl 1 fI (rowO (intsN r.bs)) = cb at hs
 generalize rawQ (-1) = p1 at *
 generalize rawQ 0 = q0 at *
 generalize rawQ 1 = q1 at *
 generalize rawQ 3 = q3 at *
 refine pureC_of (rs:=[(RV.tmp 0)]) Try.func12 (fun a w=>Try.call12 a w) body12 cc12 (by kernel_rfl) ?_
 rw [Try.ntmps12]
 simp only [frs,nA,nS]
 repeat (first | (with_reducible first | refine Way.imp ?_ | refine blk_o rfl ?_) | ((with_reducible refine WayR.imp (fun K hK=>?_));simp (disch:=first | omega | (simp only [dls];omega)) only [std,reduceIte,reduceCtorEq,iT,nA,nS,nM,iA,iS,iM,iN,fU,litP2,litP1];subst hK) | (apply call_ret (i1) rfl;(case hcl=>(simp only [evs,St.ev,constAV,evl];(repeat (first | exact closeAVs_nil | (apply closeAVs_cons;(first | (refine close_own3 rfl (by decide)) | (refine close_ownO rfl (by decide) ?_;assumption) | rfl))));done));(case hf=>rfl);(case hu=>(simp only [evs,St.ev,constAV,evl];(repeat (first | exact used_nil | (apply used_cons;(first | (apply used_own3;rfl) | rfl))));done));(case hh=>((simp only [fzl,nB,nA,Bool.false_eq_true,if_true,if_false,reduceIte]) <;> rfl))) | (apply call_ret (i2) rfl;(case hcl=>(simp only [evs,St.ev,constAV,evl];(repeat (first | exact closeAVs_nil | (apply closeAVs_cons;(first | (refine close_own3 rfl (by decide)) | (refine close_ownO rfl (by decide) ?_;assumption) | rfl))));done));(case hf=>rfl);(case hu=>(simp only [evs,St.ev,constAV,evl];(repeat (first | exact used_nil | (apply used_cons;(first | (apply used_own3;rfl) | rfl))));done));(case hh=>((simp only [fzl,nB,nA,Bool.false_eq_true,if_true,if_false,reduceIte]) <;> rfl))) | (apply call_ret (i3) rfl;(case hcl=>(simp only [evs,St.ev,constAV,evl];(repeat (first | exact closeAVs_nil | (apply closeAVs_cons;(first | (refine close_own3 rfl (by decide)) | (refine close_ownO rfl (by decide) ?_;assumption) | rfl))));done));(case hf=>rfl);(case hu=>(simp only [evs,St.ev,constAV,evl];(repeat (first | exact used_nil | (apply used_cons;(first | (apply used_own3;rfl) | rfl))));done));(case hh=>((simp only [fzl,nB,nA,Bool.false_eq_true,if_true,if_false,reduceIte]) <;> rfl))) | (apply call_ret (ids:=[1]) (hs) rfl;(case hcl=>(simp only [evs,St.ev,constAV,evl];(repeat (first | exact closeAVs_nil | (apply closeAVs_cons;(first | (refine close_own3 rfl (by decide)) | (refine close_ownO rfl (by decide) ?_;assumption) | rfl))));done));(case hf=>rfl);(case hu=>rfl);(case hh=>((simp only [fzl,nB,nA,Bool.false_eq_true,if_true,if_false,reduceIte]) <;> rfl))) | (apply call_ret_g (by simp (disch:=first | omega | (simp only [dls];omega)) only [std,reduceIte,reduceCtorEq,iT,nA,nS,nM,iA,iS,iM,iN,fU,litP2,litP1]) (i4) rfl;(case hcl=>(simp only [evs,St.ev,constAV,evl];(repeat (first | exact closeAVs_nil | (apply closeAVs_cons;(first | (refine close_own3 rfl (by decide)) | (refine close_ownO rfl (by decide) ?_;assumption) | rfl))));done));(case hf=>rfl);(case hu=>(simp only [evs,St.ev,constAV,evl];(repeat (first | exact used_nil | (apply used_cons;(first | (apply used_own3;rfl) | rfl))));done));(case hh=>((simp only [fzl,nB,nA,Bool.false_eq_true,if_true,if_false,reduceIte]) <;> rfl))) | (apply call_ret_g (by simp (disch:=first | omega | (simp only [dls];omega)) only [std,reduceIte,reduceCtorEq,iT,nA,nS,nM,iA,iS,iM,iN,fU,litP2,litP1]) (i5) rfl;(case hcl=>(simp only [evs,St.ev,constAV,evl];(repeat (first | exact closeAVs_nil | (apply closeAVs_cons;(first | (refine close_own3 rfl (by decide)) | (refine close_ownO rfl (by decide) ?_;assumption) | rfl))));done));(case hf=>rfl);(case hu=>(simp only [evs,St.ev,constAV,evl];(repeat (first | exact used_nil | (apply used_cons;(first | (apply used_own3;rfl) | rfl))));done));(case hh=>((simp only [fzl,nB,nA,Bool.false_eq_true,if_true,if_false,reduceIte]) <;> rfl))) | (apply call_any_g (s1) rfl;(case hg=>simp (disch:=first | omega | (simp only [dls];omega)) only [std,reduceIte,reduceCtorEq,iT,nA,nS,nM,iA,iS,iM,iN,fU,litP2,litP1]);(case hcl=>(simp only [evs,St.ev,constAV,evl];(repeat (first | exact closeAVs_nil | (apply closeAVs_cons;(first | (refine close_own3 rfl (by decide)) | (refine close_ownO rfl (by decide) ?_;assumption) | rfl))));done));(case hu=>rfl)) | (apply call_any_g (s2) rfl;(case hg=>simp (disch:=first | omega | (simp only [dls];omega)) only [std,reduceIte,reduceCtorEq,iT,nA,nS,nM,iA,iS,iM,iN,fU,litP2,litP1]);(case hcl=>(simp only [evs,St.ev,constAV,evl];(repeat (first | exact closeAVs_nil | (apply closeAVs_cons;(first | (refine close_own3 rfl (by decide)) | (refine close_ownO rfl (by decide) ?_;assumption) | rfl))));done));(case hu=>rfl)))
 exact ⟨_,rfl,rfl⟩
end Go.Proofs.Ytncgbjhojbnecaa
