/- Walks of simplex: Solve. -/
import Derived.Test.YtncgbjhojbnecaaGreatU10
import Derived.Test.YtncgbjhojbnecaaGreatU11
import Derived.Test.YtncgbjhojbnecaaGreatU14
import Derived.Test.YtncgbjhojbnecaaGreatU7
import Derived.Test.YtncgbjhojbnecaaGreatU9
set_option linter.unusedSimpArgs false
set_option linter.unusedVariables false
set_option linter.unnecessarySimpa false
set_option maxRecDepth 100000
set_option maxHeartbeats 4000000
open Bool renaming true -> SA, false -> TA, false_eq_true -> IA
open List renaming mem_map -> yA, length_map -> eA, getD_eq_getElem?_getD -> bA, getElem?_eq_getElem -> aA, replicate -> jA, length_replicate -> tA, map_congr_left -> wA, mem_range -> zA, getElem_mem -> gA, length_append -> sA, set_cons_succ -> lA, set_cons_zero -> mA, length_nil -> pA, length_cons -> oA, nil_append -> qA, cons_append -> rA, isEmpty_cons -> kA
open Option renaming some -> PA, none -> QA
open Go.Am.Way renaming imp -> W8
open Go.Am.WayR renaming imp -> X8
open Nat renaming le_refl -> EA, zero_le -> fN, lt_of_lt_of_le -> HA, le_trans -> GA
namespace Go.Proofs.YtncgbjhojbnecaaGreat
open Go Go.Am Go.Proofs Go.RowKit Go.Off
open Nat renaming reduceAdd -> nA,reduceSub -> nS,reduceMul -> nM,reduceBEq -> nB
open Int renaming reduceToNat -> iT,reduceAdd -> iA,reduceSub -> iS,reduceMul -> iM,reduceNeg -> iN
structure PFits (p:PB) (L:Nat):Prop where
 rb:AD p = SA
 af:LG p.A 5000 L
 bf:vC p.B 5000 L
 cf:∀ r ∈ UA p.C,vD r L
 l1:1 <= L
 l2:L <= 20000
 l3:4 ^ (UA p.A).length * (L + 1) <= 4000000
 l4:(UA p.A).length * (4 ^ (UA p.A).length * (L + 1) + L + 1) <= 8989000
theorem gN {P:PF} {i:Nat} {x:Rat} {L:Nat} (h:SB x L):SB (rF P i x) L:=by
 unfold rF
 split
 ·exact h.neg
 ·exact h
theorem PFits.sd {p:PB} {L:Nat} (h:PFits p L):SFits (qF p) L:=by
 obtain ⟨l1,l2,l3,l4⟩:=qG h.rb
 refine ⟨OJ _,l1,l2,fun r hr q hq=>?_,fun q hq=>?_,h.l1,h.l2,h.l3,h.l4⟩
 ·obtain ⟨k,_,rfl⟩:=yA.1 hr
  obtain ⟨i,_,rfl⟩:=yA.1 hq
  exact gN (((h.af.at i).at k).val h.l1)
 ·obtain ⟨i,_,rfl⟩:=yA.1 hq
  exact gN ((h.bf.at i).val h.l1)
theorem JL (p:PB):LC p.C = JC (GC p):=by
 refine List.ext_getElem (by rw [YL];show _ = (List.map _ _).length;rw [eA,List.length_range];rfl) (fun i h1 h2=>?_)
 have e1:=LO p.C i
 rw [bA,aA h1] at e1
 have h3:i < (GC p).n:=by rw [YL] at h1;exact h1
 have e2:=costs_at (GC p) h3
 rw [bA,aA h2] at e2
 exact e1.trans e2.symm
theorem QS {P:PF} {bs:List Nat} (hb:COk (qC P) bs) (h:¬ 0 < LH (yL (qC P) (lC P) 1 bs) (qC P).b):Zer (qC P) bs:=fun j hj hn=>by
 have hw:=OJ P
 have hyl:(yL (qC P) (lC P) 1 bs).length = P.m:=NN hw _ _ hb.toBOk
 have hcost:OB (qC P).m (fun j=>zD (qC P) (lC P) 1 (HD bs j) * lF (xL (qC P) bs) j) = LH (yL (qC P) (lC P) 1 bs) (qC P).b:=by
  rw [dot_b P hyl,KK hw hb.toBOk (KJ hw hb.toBOk)]
  rfl
 have hs:OB (qC P).m (fun j=>zD (qC P) (lC P) 1 (HD bs j) * lF (xL (qC P) bs) j) <= 0:=by rw [hcost];exact Rat.not_lt.1 h
 have:=YM (fun j hj=>Rat.mul_nonneg (WI P _) (hb.pos j hj)) hs j hj
 rw [KL,if_pos (show P.n <= HD bs j from hn),Rat.one_mul] at this
 exact this
def zI (p:PB) (bu:Int):RO:=tC (qF p) (lC (GC p)) 1 bu.toNat (cE (GC p))
def O2P (p:PB) (bu:Int):RO:=tC (qF p) (LC p.C) 0 (zI p bu).rem (iD (qF p) (zI p bu).bs (UA p.A).length)
def uP (p:PB) (bu:Int):AV :=
 if (AD p && decide (0 <= bu)) = TA then .tup [aSR0,aI 1] else
 if (zI p bu).err then .tup [aSR0,aI 10] else
 if 0 < LH (zI p bu).y (qF p).b then .tup [.agg (jS 2 [] (kE (bI p) (zI p bu).y (zI p bu).y.length) [] (zI p bu).bs (bu - ((zI p bu).rem:Int))),aI 0] else
 VJ (qF p) (bI p) (O2P p bu) bu
theorem secV_is (S:SD) (ms:List Bool) (O:RO) (bu:Int):∃ (v:Int) (X Y Ray:List Rat) (bs:List Nat) (st e:Int),VJ S ms O bu = .tup [.agg (jS v X Y Ray bs st),aI e] /\ yP S ms O bu = ⟨0,69,6,[jS v X Y Ray bs st],SA,SA⟩:=by
 cases hE:O.err with
 | true =>
  have e1:VJ S ms O bu = .tup [.agg (jS 0 [] [] [] [] 0),aI 10]:=by unfold VJ;rw [hE];rfl
  exact ⟨0,[],[],[],[],0,10,e1,by unfold yP;rw [e1]⟩
 | false =>
  cases hK:O.k with
  | none =>
   have e1:VJ S ms O bu = .tup [.agg (jS 1 (cC S O.bs (xL S O.bs)) (kE ms O.y O.y.length) [] O.bs (bu - (O.rem:Int))),aI 0]:=by unfold VJ;rw [hE,hK];rfl
   exact ⟨_,_,_,_,_,_,_,e1,by unfold yP;rw [e1]⟩
  | some k =>
   have e1:VJ S ms O bu = .tup [.agg (jS 3 (cC S O.bs (xL S O.bs)) [] ((cC S O.bs (yC O.d (-1))).set k 1) O.bs (bu - (O.rem:Int))),aI 0]:=by unfold VJ;rw [hE,hK];rfl
   exact ⟨_,_,_,_,_,_,_,e1,by unfold yP;rw [e1]⟩
theorem sL (n:Nat) (hn:n <= 1000000):YA Tryz.prog 34 [.one (.c (jB 1 fI (PA (jA n 0))))] (.ret (aV (aQ (jA n 0)))):=by
 have:=qN (jA n 0) (by rw [tA];exact hn) (fun k hk=>by rw [(List.mem_replicate.1 hk).2];decide)
 rw [List.map_replicate] at this
 unfold aQ
 rw [List.map_replicate]
 exact this
theorem gR {α:Type} {f:α -> List CV} {v e:Nat} {ty:TypeId} {l:List α} {x y:Bool}:aK ⟨v,ty,e,wB f l,x,y⟩:=fun n=>by
 rw [JB,clean_encB]
abbrev c25:CC:=(.seq (.reg [(oD 2 (.box 34 (tP 0))),(oD 4 (.new 69 [(.int .i64 (0)),(.slice QA 0 0),(.slice QA 0 0),(.slice QA 0 0),(.slice QA 0 0),(.int .i64 (0))])),(mI 5 0)]) (.seq (.seq (.reg [(lT 12 3 2),(mV 13 1),(oD 14 (.callf (.func 62) [(tP 12),(tP 13)])),(uN 15 14)]) (.cond (tP 15) (.seq (.reg [(oD 16 (.build [(.int .i64 (0)),(.slice QA 0 0),(.slice QA 0 0),(.slice QA 0 0),(.slice QA 0 0),(.int .i64 (0))] [])),(sT 6 4 16),(mI 5 1)]) .ret) .skip)) (.seq (.reg [(lT 17 3 2),(mV 18 1),(oD 19 (.callf (.func 63) [(tP 17),(tP 18)])),(mV 6 19)]) (.seq (.reg [(mV 20 6),(fA 21 0 20),(fA 22 0 21),(lF 23 1 22),(oD 24 (.make 3 1 8 [(.int .i64 (0))] (tP 23) (tP 23))),(oD 25 (.callf (.func 34) [(tP 24)])),(mV 7 25)]) (.seq (.reg [(mV 27 6),(mV 28 7),(oD 29 (.callf (.func 19) [(.const (.int .i64 (1)))])),(oD 30 (.callf (.func 64) [(tP 27),(tP 28),(tP 29)])),(mV 26 30),(eX 31 26 0),(eX 32 26 1),(eX 33 26 2),(eX 34 26 3),(mV 8 31),(mV 9 32),(mV 10 33),(mV 11 34)]) (.seq (.seq (.reg [(mV 35 11),(bC 36 .neq 35 0)]) (.cond (tP 36) (.seq (.reg [(oD 37 (.build [(.int .i64 (0)),(.slice QA 0 0),(.slice QA 0 0),(.slice QA 0 0),(.slice QA 0 0),(.int .i64 (0))] [])),(mV 38 11),(sT 6 4 37),(mV 5 38)]) .ret) .skip)) (.seq (.seq (.reg [(mV 39 8),(mV 40 6),(fA 41 0 40),(fA 42 3 41),(lF 43 1 42),(oD 44 (.callf (.func 29) [(tP 39),(tP 43)])),(oD 45 (.callf (.func 27) [(tP 44)])),(bC 46 .gtr 45 0)]) (.cond (tP 46) (.seq (.reg [(mV 47 6),(mV 48 8),(oD 49 (.callf (.func 65) [(tP 47),(tP 48)])),(mV 50 6),(fA 51 0 50),(fA 52 5 51),(lF 53 1 52),(oD 54 (.callf (.func 36) [(tP 53)])),(mV 55 6),(fA 56 0 55),(fA 57 6 56),(lF 58 1 57),(oD 59 (.build [(.int .i64 (0)),(.slice QA 0 0),(.slice QA 0 0),(.slice QA 0 0),(.slice QA 0 0),(.int .i64 (0))] [(0,(1,(.const (.int .i64 (2))))),(2,(1,(tP 49))),(4,(1,(tP 54))),(5,(1,(tP 58)))])),(sT 6 4 59),(mI 5 0)]) .ret) .skip)) (.seq (.reg [(mV 60 6),(oD 61 (.callf (.func 66) [(tP 60)]))]) (.seq (.reg [(mV 62 6),(fA 63 2 2),(lF 64 1 63),(oD 65 (.callf (.func 67) [(tP 62),(tP 64)])),(eX 66 65 0),(eX 67 65 1),(sT 6 4 66),(mV 5 67)]) .ret)))))))))
theorem cc25:ZA Tryz.prog [63,64,66,67] (Tryz.f25.body.getD .skip) = PA c25:=by kernel_rfl
theorem body25:Tryz.f25.body = PA (Tryz.f25.body.getD .skip):=rfl
theorem solve_no (p:PB) (bu:Int) (h:(AD p && decide (0 <= bu)) = TA):YA Tryz.prog 25 [aP p,aI bu] (.ret (uP p bu)):=by
 have hm:=may_C p bu
 unfold uP
 rw [if_pos h]
 rw [h] at hm
 refine WA (rs:=[(RV.cell 4 6 SA),(RV.tmp 5)]) Tryz.func25 (fun a w=>Tryz.call25 a w) body25 cc25 (by kernel_rfl) ?_
 rw [Tryz.ntmps25]
 simp only [pC,nA,nS]
 repeat (first | (with_reducible first | refine W8 ?_ | refine VA rfl ?_) | ((with_reducible refine X8 fun K hK=>?_);simp (disch:=first | omega | simp only [sB];omega) only [qB,reduceIte,reduceCtorEq,iT,nA,nS,nM,iA,iS,iM,iN,fU];subst hK) | refine KB (hm) rfl rfl rfl ?_)
 exact ⟨_,rfl,rfl⟩
theorem lS (p:PB) (bu:Int) (L:Nat) (hp:PFits p L) (hb0:0 <= bu) (hbu:bu <= 9223372036854775807):YA Tryz.prog 25 [aP p,aI bu] (.ret (uP p bu)):=by
 obtain ⟨l1,l2,l3,l4⟩:=qG hp.rb
 have hS:=hp.sd
 have hw:=hS.toWf
 have k1:=hp.l1
 have k2:=hp.l2
 have k3:=hp.l3
 have k4:=hp.l4
 have hok:(AD p && decide (0 <= bu)) = SA:=by rw [hp.rb,decide_eq_true hb0];rfl
 have hm:=may_C p bu
 rw [hok] at hm
 have hst:=start_O p L hp.rb hp.af hp.bf hp.l1 (by omega) bu ⟨0,34,3,[[.c (jB 1 fM p.A),.c (vr p.B),.c (vr p.C)]],SA,SA⟩ ⟨0,69,6,[[.c (.val (.int .i64 0)),.c (.val (.slice QA 0 0)),.c (.val (.slice QA 0 0)),.c (.val (.slice QA 0 0)),.c (.val (.slice QA 0 0)),.c (.val (.int .i64 0))]],SA,SA⟩ (fun n=>rfl) (fun n=>rfl)
 have hsn:(qF p).n <= 5000:=l1
 have hz:=sL (qF p).n (by omega)
 have hbz:bu - ((bu.toNat:Nat):Int) = 0:=by omega
 have hnb:(!(MB (cE (GC p))).isEmpty) = !(MB (cE (GC p))).isEmpty:=rfl
 have hc0:=cok0 (GC p)
 have hO1:tC (qF p) (lC (GC p)) 1 bu.toNat (cE (GC p)) = zI p bu:=rfl
 have hzl:(UA (aQ (jA (qF p).n (0:Rat)))).length = (qF p).n:=by rw [nD,tA]
 have hrun:=fun bb:Bool=>run_O (qF p) L hS (aQ (jA (qF p).n 0)) 1 hzl (fun r hr=>by
  rw [RE] at hr
  obtain ⟨q,hq,rfl⟩:=yA.1 hr
  rw [(List.mem_replicate.1 hq).2]
  exact QB (HC _ k1)) (FE _ k1) bu hbu bu.toNat (by omega) (cE (GC p)) hc0 0 (UA p.A).length _ rfl (NR (bI p)) (.val (.slice QA 0 0)) ⟨0,34,3,[[.c (jB 1 fM p.A),.c (vr p.B),.c (vr p.C)]],SA,SA⟩ ⟨0,69,6,[[.c (.val (.int .i64 0)),.c (.val (.slice QA 0 0)),.c (.val (.slice QA 0 0)),.c (.val (.slice QA 0 0)),.c (.val (.slice QA 0 0)),.c (.val (.int .i64 0))]],SA,SA⟩ ⟨0,34,3,[[.c (jB 1 fM p.A),.c (vr p.B),.c (vr p.C)]],SA,SA⟩ ⟨0,3,1,wB fI (jA (qF p).n 0),bb,SA⟩ (fun n=>rfl) (fun n=>rfl) (fun n=>rfl) gR (zI p bu) (by rw [dS];exact hO1)
 rw [hbz] at hrun
 have hi1:=KE 1 (by omega) (by omega)
 rw [show ((1:Int):Rat) = 1 from rfl] at hi1
 obtain ⟨g1,_,g3,_,g5⟩:=OE hw (costs:=lC (GC p)) (own:=1) (fun _=>True) (fun _ _ _ _ _ _=>trivial) bu.toNat (cE (GC p)) hc0 trivial
 rw [hO1] at g1 g3 g5
 unfold uP
 rw [if_neg (by rw [hok];simp)]
 unfold tB at hst hrun
 cases hE:(zI p bu).err with
 | true =>
  rw [if_pos rfl]
  rw [hE] at hrun
  refine WA (rs:=[(RV.cell 4 6 SA),(RV.tmp 5)]) Tryz.func25 (fun a w=>Tryz.call25 a w) body25 cc25 (by kernel_rfl) ?_
  rw [Tryz.ntmps25]
  simp only [pC,nA,nS]
  repeat (first | (with_reducible first | refine W8 ?_ | refine VA rfl ?_) | ((with_reducible refine X8 fun K hK=>?_);simp (disch:=first | omega | simp only [sB];omega) only [qB,reduceIte,reduceCtorEq,iT,nA,nS,nM,iA,iS,iM,iN,fU,sS];subst hK) | refine KB (hm) rfl rfl rfl ?_ | (apply PD (hst) rfl rfl) | (apply NL 5 (hz) rfl;(case hcl=>(simp only [oE,St.ev,yB,NE];(repeat (first | exact kB | (apply gB;(first | (refine CB rfl (by decide)) | (refine BB rfl (by decide) ?_;assumption) | rfl))));done));(case hu=>(simp only [oE,St.ev,yB,NE];(repeat (first | exact RC | (apply AC;(first | (apply xC;rfl) | rfl))));done));(case h1=>((simp only [YH,EB,nB,nA,IA,if_true,if_false,reduceIte]) <;> rfl));(case h2=>rfl);intro bb;simp only [nJ,oJ]) | refine KB (hi1) rfl rfl rfl ?_ | (apply PD ((hrun _)) rfl rfl))
  exact ⟨_,rfl,rfl⟩
 | false =>
  rw [if_neg (by simp)]
  have g6:mE (qF p) (lC (GC p)) 1 (zI p bu).bs = .fin (zI p bu).k (zI p bu).d /\ (zI p bu).y = yL (qF p) (lC (GC p)) 1 (zI p bu).bs:=by
   rcases g5 with ⟨_,g6,g7⟩ | ⟨g6,_⟩
   ·exact ⟨g6,g7⟩
   ·rw [hE] at g6;cases g6
  obtain ⟨g6,g7⟩:=g6
  have hB:=g1.toBOk
  have hlen:=hB.len
  have hyl:(zI p bu).y.length = (qF p).m:=by rw [g7];exact NN hw _ _ hB
  have hK1:1 <= 4 ^ (qF p).m * (L + 1):=Nat.mul_pos (Nat.pow_pos (by decide)) (by omega)
  have hk4:(qF p).m * (4 ^ (qF p).m * (L + 1) + L + 1) <= 8989000:=k4
  have hk3:4 ^ (qF p).m * (L + 1) <= 4000000:=k3
  have hsm:(qF p).m <= 90:=l2
  have fy:∀ q ∈ (zI p bu).y,SB q (4 ^ (qF p).m * (L + 1)):=fun q hq=>by
   rw [g7] at hq
   refine wF (LJ hS hB.len) k1 (by rw [eA];exact hB.len) (fun q hq=>?_) q hq
   obtain ⟨k,hk,rfl⟩:=yA.1 hq
   rw [KL]
   exact fits01 k1 _
  have hsb:(qF p).b.length = (qF p).m:=hw.bl
  have vy:=nE (n:=(qF p).m) (by omega) fy
  have vb':=nE (n:=(qF p).m) (by omega) hS.bf
  have hdot:=dot_W (aQ (zI p bu).y) (aQ (qF p).b) (qF p).m (4 ^ (qF p).m * (L + 1)) L vy vb' (by omega) hK1 k1 (by omega) (by omega) (by omega) (by omega)
  have hdf:=NS vy vb' hK1 k1
  rw [dot_rowV] at hdot hdf
  have hsg:=BG (eB (LH (zI p bu).y (qF p).b)) (QB (hdf.mono (by omega)))
  have hsl:=sgn_low' (LH (zI p bu).y (qF p).b)
  have hnb2:(!(MB (cE (GC p))).isEmpty) = !(MB (zI p bu).bs).isEmpty:=by
   rw [xF,xF,eC,eC,hlen,hc0.len]
  have hzer:=fun h=>QS (P:=GC p) g1 h
  rw [<- g7] at hzer
  rw [hE] at hrun
  generalize hdv:LH (zI p bu).y (qF p).b = dv at hdot hsg hsl hzer
  generalize dE (eB dv).top = z at hsg hsl
  by_cases hpos:0 < dv
  ·rw [if_pos hpos]
   have hz0:¬ z <= 0:=fun h=>absurd (hsl.1 h) (Rat.not_le.2 hpos)
   have hmn:(bI p).length = (qF p).m:=by show (List.map _ _).length = _;rw [eA,List.length_range];rfl
   have htn:=turn_P (qF p) (bI p) (zI p bu).y (4 ^ (qF p).m * (L + 1)) (by omega) (by omega) fy (by omega) (jB 1 fI (aC (MB (zI p bu).bs))) (bu - ((zI p bu).rem:Int)) bu (vr (aQ (xL (qF p) (zI p bu).bs)))
   have hcln:=eR (aC (MB (zI p bu).bs)) (by rw [WB,eC];omega)
   refine WA (rs:=[(RV.cell 4 6 SA),(RV.tmp 5)]) Tryz.func25 (fun a w=>Tryz.call25 a w) body25 cc25 (by kernel_rfl) ?_
   rw [Tryz.ntmps25]
   simp only [pC,nA,nS]
   repeat (first | (with_reducible first | refine W8 ?_ | refine VA rfl ?_) | ((with_reducible refine X8 fun K hK=>?_);simp (disch:=first | omega | simp only [sB];omega) only [qB,reduceIte,reduceCtorEq,iT,nA,nS,nM,iA,iS,iM,iN,fU,sS];subst hK) | refine KB (hm) rfl rfl rfl ?_ | (apply PD (hst) rfl rfl) | (apply NL 5 (hz) rfl;(case hcl=>(simp only [oE,St.ev,yB,NE];(repeat (first | exact kB | (apply gB;(first | (refine CB rfl (by decide)) | (refine BB rfl (by decide) ?_;assumption) | rfl))));done));(case hu=>(simp only [oE,St.ev,yB,NE];(repeat (first | exact RC | (apply AC;(first | (apply xC;rfl) | rfl))));done));(case h1=>((simp only [YH,EB,nB,nA,IA,if_true,if_false,reduceIte]) <;> rfl));(case h2=>rfl);intro bb;simp only [nJ,oJ]) | refine KB (hi1) rfl rfl rfl ?_ | (apply PD ((hrun _)) rfl rfl) | refine KB (hdot) rfl rfl rfl ?_ | refine KB (hsg) rfl rfl rfl ?_ | (apply YE (htn) rfl;(case hcl=>(simp only [oE,St.ev,yB,NE];(repeat (first | exact kB | (apply gB;(first | (refine CB rfl (by decide)) | (refine BB rfl (by decide) ?_;assumption) | rfl | exact (xE rfl rfl hnb2)))));done));(case hu=>(simp only [oE,St.ev,yB,NE];(repeat (first | exact RC | (apply AC;(first | (apply xC;rfl) | exact (dK rfl rfl) | rfl))));done));(case h1=>((simp only [YH,EB,nB,nA,IA,if_true,if_false,reduceIte]) <;> rfl));(case h2=>exact rfl);intro b3 b4;simp only [AH]) | (apply YE (hcln) rfl;(case hcl=>(simp only [oE,St.ev,yB,NE];(repeat (first | exact kB | (apply gB;(first | (refine CB rfl (by decide)) | (refine BB rfl (by decide) ?_;assumption) | rfl | exact (xE rfl rfl hnb2)))));done));(case hu=>(simp only [oE,St.ev,yB,NE];(repeat (first | exact RC | (apply AC;(first | (apply xC;rfl) | exact (dK rfl rfl) | rfl))));done));(case h1=>((simp only [YH,EB,nB,nA,IA,if_true,if_false,reduceIte]) <;> rfl));(case h2=>exact rfl);intro b3 b4;simp only [AH]))
   exact ⟨_,rfl,rfl⟩
  ·rw [if_neg hpos]
   have hz0:z <= 0:=hsl.2 (Rat.not_lt.1 hpos)
   have hcl:=fun bb:Bool=>clear_O (qF p) L hS (zI p bu).bs g1 (hzer hpos) 0 (UA p.A).length _ hnb2 (NR (bI p)) (bu - ((zI p bu).rem:Int)) bu (vr (aQ (xL (qF p) (zI p bu).bs))) ⟨0,34,3,[[.c (jB 1 fM p.A),.c (vr p.B),.c (vr p.C)]],SA,SA⟩ ⟨0,69,6,[[.c (.val (.int .i64 0)),.c (.val (.slice QA 0 0)),.c (.val (.slice QA 0 0)),.c (.val (.slice QA 0 0)),.c (.val (.slice QA 0 0)),.c (.val (.int .i64 0))]],SA,SA⟩ ⟨0,34,3,[[.c (jB 1 fM p.A),.c (vr p.B),.c (vr p.C)]],SA,SA⟩ ⟨0,3,1,wB fI (jA (qF p).n 0),bb,SA⟩ (fun n=>rfl) (fun n=>rfl) (fun n=>rfl) gR
   obtain ⟨c1,c2,c3⟩:=vG hw g1 (hzer hpos) (qF p).m (EA _)
   have hnb3:(!(MB (cE (GC p))).isEmpty) = !(MB (iD (qF p) (zI p bu).bs (qF p).m)).isEmpty:=by
    rw [xF,xF,eC,eC,c1.len,hc0.len]
   have hmn:(bI p).length = (qF p).m:=by show (List.map _ _).length = _;rw [eA,List.length_range];rfl
   have hsec:=second_O (qF p) L hS (bI p) hmn p.C (by rfl) hp.cf bu hbu (zI p bu).rem (by omega) (iD (qF p) (zI p bu).bs (qF p).m) c1 0 (UA p.A).length _ hnb3 (vr (aQ (xL (qF p) (zI p bu).bs))) ⟨0,34,3,[[.c (jB 1 fM p.A),.c (vr p.B),.c (vr p.C)]],SA,SA⟩ ⟨0,69,6,[[.c (.val (.int .i64 0)),.c (.val (.slice QA 0 0)),.c (.val (.slice QA 0 0)),.c (.val (.slice QA 0 0)),.c (.val (.slice QA 0 0)),.c (.val (.int .i64 0))]],SA,SA⟩ ⟨0,34,3,[[.c (jB 1 fM p.A),.c (vr p.B),.c (vr p.C)]],SA,SA⟩ (fun n=>rfl) (fun n=>rfl) (fun n=>rfl) (show 0 < 3 by decide) (show 0 < 6 by decide) (show 0 < 3 by decide) (O2P p bu) rfl
   unfold tB at hcl hsec
   change YA _ _ _ (.ret (VJ (qF p) (bI p) (O2P p bu) bu))
   obtain ⟨sv,sX,sY,sRay,sbs,sst,se,e1,e2⟩:=secV_is (qF p) (bI p) (O2P p bu) bu
   rw [e1,e2] at hsec
   rw [e1]
   unfold jS at hsec ⊢
   refine WA (rs:=[(RV.cell 4 6 SA),(RV.tmp 5)]) Tryz.func25 (fun a w=>Tryz.call25 a w) body25 cc25 (by kernel_rfl) ?_
   rw [Tryz.ntmps25]
   simp only [pC,nA,nS]
   iterate 56 (first | (with_reducible first | refine W8 ?_ | refine VA rfl ?_) | ((with_reducible refine X8 fun K hK=>?_);simp (disch:=first | omega | simp only [sB];omega) only [qB,reduceIte,reduceCtorEq,iT,nA,nS,nM,iA,iS,iM,iN,fU,sS];subst hK) | refine KB (hm) rfl rfl rfl ?_ | (apply PD (hst) rfl rfl) | (apply NL 5 (hz) rfl;(case hcl=>(simp only [oE,St.ev,yB,NE];(repeat (first | exact kB | (apply gB;(first | (refine CB rfl (by decide)) | (refine BB rfl (by decide) ?_;assumption) | rfl))));done));(case hu=>(simp only [oE,St.ev,yB,NE];(repeat (first | exact RC | (apply AC;(first | (apply xC;rfl) | rfl))));done));(case h1=>((simp only [YH,EB,nB,nA,IA,if_true,if_false,reduceIte]) <;> rfl));(case h2=>rfl);intro bb;simp only [nJ,oJ]) | refine KB (hi1) rfl rfl rfl ?_ | (apply PD ((hrun _)) rfl rfl) | refine KB (hdot) rfl rfl rfl ?_ | refine KB (hsg) rfl rfl rfl ?_ | (apply PD ((hcl _)) rfl rfl))
   refine uD.fgt ?hA1 (TB.headP (t':=(.junk :: .junk :: .one (.ptr 0 0 0 0) :: .junk :: .one (.ptr 1 0 0 0) :: aI 0 :: aT 0 :: K8 (L8 (J8 (J4 (.junk :: [])))))) (h':=[⟨0,34,3,[[.c (jB 1 fM p.A),.c (vr p.B),.c (vr p.C)]],SA,SA⟩,⟨0,69,6,[[.c (.val (.int .i64 0)),.c (.val (.slice QA 0 0)),.c (.val (.slice QA 0 0)),.c (.val (.slice QA 0 0)),.c (.val (.slice QA 0 0)),.c (.val (.int .i64 0))]],SA,SA⟩,⟨0,34,3,[[.c (jB 1 fM p.A),.c (vr p.B),.c (vr p.C)]],SA,SA⟩,⟨0,113,9,[[.c (.val (.int .i64 ((qF p).n:Int))),.c (.val (.int .i64 ((qF p).m:Int))),.c (jB 1 fM (TD (qF p))),.c (vr (aQ (qF p).b)),.c (NR (bI p)),.own 4 (UA p.A).length,.c (.val (.int .i64 (bu - ((zI p bu).rem:Int)))),.c (.val (.int .i64 bu)),.c (vr (aQ (xL (qF p) (zI p bu).bs)))]],SA,SA⟩,⟨(UA p.A).length,3,1,wB fI (MB (iD (qF p) (zI p bu).bs (qF p).m)),SA,!(MB (cE (GC p))).isEmpty⟩]) (show _ <= 5 from Nat.le_of_ble_eq_true rfl) [TA,TA,SA,TA,SA,SA,SA])
   repeat (first | (with_reducible first | refine W8 ?_ | refine VA rfl ?_) | ((with_reducible refine X8 fun K hK=>?_);simp (disch:=first | omega | simp only [sB];omega) only [qB,reduceIte,reduceCtorEq,iT,nA,nS,nM,iA,iS,iM,iN,fU];subst hK) | (apply PD (hsec) rfl rfl))
   exact ⟨_,rfl,rfl⟩
theorem qAt_far {b:VV} {i:Nat} (h:(UA b).length <= i):jE b i = 0:=by
 unfold jE dF
 rw [bA,List.getElem?_eq_none_iff.2 h]
 exact cP
theorem eS {p:PB} (hb:(UA p.B).length = (UA p.A).length) (l:List Rat):kE (bI p) l l.length = mG (GC p) l:=by
 unfold kE mG
 refine wA (fun i _=>?_)
 unfold rF
 show (if (jL p (UA p.A).length).getD i TA then _ else _) = if jE p.B i < 0 then _ else _
 by_cases hi:i < (UA p.A).length
 ·have e1:(jL p (UA p.A).length).getD i TA = decide (jE p.B i < 0):=dD _ _ i TA hi
  rw [e1]
  by_cases h:jE p.B i < 0
  ·rw [if_pos h,decide_eq_true h,if_pos rfl]
  ·rw [if_neg h,decide_eq_false h,if_neg (by simp)]
 ·have e1:(jL p (UA p.A).length).getD i TA = TA:=by
   rw [bA,List.getElem?_eq_none_iff.2 (by unfold jL;rw [eA,List.length_range];omega)]
   rfl
  rw [e1,qAt_far (by omega),if_neg (by simp),if_neg (by decide)]
def srV (r:SR) (st:Int):AV:=.tup [.agg (jS r.v r.X r.Y r.Ray r.bs st),aI 0]
theorem solvV_is {p:PB} {bu:Int} (hr:AD p = SA) (h0:0 <= bu):uP p bu = match zH (GC p) bu.toNat with
  | none=>.tup [aSR0,aI 10]
  | some r=>srV r (bu - (r.rem:Int)):=by
 obtain ⟨l1,l2,l3,l4⟩:=qG hr
 have hok:(AD p && decide (0 <= bu)) = SA:=by rw [hr,decide_eq_true h0];rfl
 unfold uP zH
 rw [if_neg (by rw [hok];simp)]
 have e1:zI p bu = tC (qC (GC p)) (lC (GC p)) 1 bu.toNat (cE (GC p)):=rfl
 rw [<- e1]
 cases hE:(zI p bu).err with
 | true=>rfl
 | false =>
  rw [if_neg (show ¬ TA = SA by simp),if_neg (show ¬ TA = SA by simp)]
  by_cases hp:0 < LH (zI p bu).y (qF p).b
  ·rw [if_pos hp,if_pos hp,eS l3]
   rfl
  ·rw [if_neg hp,if_neg hp]
   have e2:O2P p bu = tC (qC (GC p)) (JC (GC p)) 0 (zI p bu).rem (iD (qC (GC p)) (zI p bu).bs (GC p).m):=by unfold O2P;rw [JL];rfl
   unfold jI VJ
   rw [<- e2]
   cases hE2:(O2P p bu).err with
   | true=>rfl
   | false =>
    rw [if_neg (show ¬ TA = SA by simp),if_neg (show ¬ TA = SA by simp)]
    unfold endO ZK
    cases hK:(O2P p bu).k with
    | none=>dsimp only;rw [eS l3];rfl
    | some k=>rfl
theorem solve_neg (p:PB) (bu:Int) (h:bu < 0):YA Tryz.prog 25 [aP p,aI bu] (.ret (.tup [aSR0,aI 1])):=by
 have h0:(AD p && decide (0 <= bu)) = TA:=by rw [decide_eq_false (by omega),Bool.and_false]
 have:=solve_no p bu h0
 unfold uP at this
 rw [if_pos h0] at this
 exact this
theorem uL {n:Nat} {bs:List Nat} {l:List Rat}:∀ (i:Nat) (q:Rat),q ∈ wD n bs l i -> q = 0 \/ q ∈ l
 | 0,q,h=>by
  unfold wD at h
  exact .inl (List.mem_replicate.1 h).2
 | i + 1,q,h=>by
  unfold wD at h
  split at h
  ·rcases List.mem_or_eq_of_mem_set h with h1 | h1
   ·exact uL i q h1
   ·rw [h1,bA]
    cases hl:l[i]? with
    | none=>exact .inl rfl
    | some x=>exact .inr (List.mem_of_getElem? hl)
  ·exact uL i q h
def oF (l:List Rat) (K:Nat):Prop:=∀ q ∈ l,SB q K
theorem EM (K:Nat):oF [] K:=fun q h=>by cases h
theorem rK {S:SD} {bs:List Nat} {l:List Rat} {K:Nat} (h:oF l K) (hK:1 <= K):oF (cC S bs l) K:=fun q hq=>by
 rcases uL _ q hq with h1 | h1
 ·rw [h1];exact HC _ hK
 ·exact h q h1
theorem SQ {P:PF} {l:List Rat} {K:Nat} (h:oF l K):oF (mG P l) K:=fun q hq=>by
 unfold mG at hq
 obtain ⟨i,hi,rfl⟩:=yA.1 hq
 have hi':=zA.1 hi
 refine gN (h _ ?_)
 rw [bA,aA hi']
 exact gA hi'
theorem fall_neg {l:List Rat} {K:Nat} (h:oF l K):oF (yC l (-1)) K:=fun q hq=>by
 unfold yC at hq
 obtain ⟨x,hx,rfl⟩:=yA.1 hq
 have:x * -1 = -x:=by grind
 rw [this]
 exact (h x hx).neg
theorem fits_run {S:SD} {L:Nat} (hS:SFits S L) {costs:List Rat} {own:Rat} (hc:oF costs L) (ho:SB own L) {bs:List Nat} (hb:COk S bs) (rem:Nat) (he:(tC S costs own rem bs).err = TA) :
  oF (xL S (tC S costs own rem bs).bs) (4 ^ S.m * (L + 1)) /\ oF (tC S costs own rem bs).y (4 ^ S.m * (L + 1)) /\ oF (tC S costs own rem bs).d (4 ^ S.m * (L + 1)):=by
 obtain ⟨g1,_,g3,_,g5⟩:=OE hS.toWf (costs:=costs) (own:=own) (fun _=>True) (fun _ _ _ _ _ _=>trivial) rem bs hb trivial
 have hB:=g1.toBOk
 generalize tC S costs own rem bs = O at *
 rcases g5 with ⟨_,g6,g7⟩ | ⟨g6,_⟩
 ·refine ⟨fun q hq=>wF (vH (LJ hS hB.len)) hS.l1 hS.bl hS.bf q hq,fun q hq=>?_,fun q hq=>?_⟩
  ·rw [g7] at hq
   refine wF (LJ hS hB.len) hS.l1 (by rw [eA];exact hB.len) (fun q hq=>?_) q hq
   obtain ⟨k,hk,rfl⟩:=yA.1 hq
   unfold zD
   split
   ·exact ho
   ·rw [bA]
    cases hl:costs[k]? with
    | none=>exact HC _ hS.l1
    | some x=>exact hc x (List.mem_of_getElem? hl)
  ·cases hk:O.k with
   | none =>
    rw [hk] at g6
    rw [(AG g6).2] at hq
    cases hq
   | some k =>
    rw [hk] at g6
    obtain ⟨ge,gd,_⟩:=zG hS.toWf hB g6
    obtain ⟨gk,_,_⟩:=tG hS.toWf hB ge
    rw [gd] at hq
    have hkc:k < S.cols.length:=by have:=hS.cl;omega
    refine wF (vH (LJ hS hB.len)) hS.l1 (hS.cm k gk) (fun q hq=>?_) q hq
    rw [bA,aA hkc] at hq
    exact hS.colf _ (gA hkc) q hq
 ·rw [he] at g6;cases g6
theorem fits_second {P:PF} {L:Nat} (hS:SFits (qC P) L) (hc:oF (JC P) L) {bs:List Nat} (hb:COk (qC P) bs) {rem:Nat} {r:SR} (h:jI P rem bs = PA r) :
  oF r.X (4 ^ P.m * (L + 1)) /\ oF r.Y (4 ^ P.m * (L + 1)) /\ oF r.Ray (4 ^ P.m * (L + 1)):=by
 have hK:1 <= 4 ^ P.m * (L + 1):=Nat.mul_pos (Nat.pow_pos (by decide)) (by omega)
 unfold jI at h
 split at h
 ·cases h
 ·rename_i he
  have he':(tC (qC P) (JC P) 0 rem bs).err = TA:=by simpa using he
  obtain ⟨f1,f2,f3⟩:=fits_run hS hc (HC _ hS.l1) hb rem he'
  cases h
  unfold endO ZK
  cases (tC (qC P) (JC P) 0 rem bs).k with
  | none=>exact ⟨rK f1 hK,SQ f2,EM _⟩
  | some k =>
   refine ⟨rK f1 hK,EM _,fun q hq=>?_⟩
   rcases List.mem_or_eq_of_mem_set hq with h1 | h1
   ·exact rK (fall_neg f3) hK q h1
   ·rw [h1];exact FE _ hK
theorem MQ {P:PF} {L:Nat} (hS:SFits (qC P) L) (hc:oF (JC P) L) {rem:Nat} {r:SR} (h:zH P rem = PA r) :
  oF r.X (4 ^ P.m * (L + 1)) /\ oF r.Y (4 ^ P.m * (L + 1)) /\ oF r.Ray (4 ^ P.m * (L + 1)):=by
 have hw:=OJ P
 have hb:=cok0 P
 have hz:oF (lC P) L:=fun q hq=>by rw [(List.mem_replicate.1 hq).2];exact HC _ hS.l1
 obtain ⟨g1,_,g3,_,g5⟩:=OE hw (costs:=lC P) (own:=1) (fun _=>True) (fun _ _ _ _ _ _=>trivial) rem (cE P) hb trivial
 unfold zH at h
 split at h
 ·cases h
 ·rename_i he
  have he':(tC (qC P) (lC P) 1 rem (cE P)).err = TA:=by simpa using he
  obtain ⟨f1,f2,f3⟩:=fits_run hS hz (FE _ hS.l1) hb rem he'
  rcases g5 with ⟨_,g6,g7⟩ | ⟨g6,_⟩
  ·split at h
   ·cases h
    exact ⟨EM _,SQ f2,EM _⟩
   ·rename_i hp
    rw [g7] at hp
    obtain ⟨c1,_,_⟩:=vG hw g1 (QS g1 hp) P.m (EA _)
    exact fits_second hS hc c1 h
  ·rw [he'] at g6;cases g6
structure Told (p:PB) (K:Nat) (r:SR) (T:Nat):Prop where
 steps:T < 2 * AI (GC p)
 prov:ZR (GC p) r
 crn:r.v = 2 \/ Crn (GC p) r.X
 blen:r.bs.length = (UA p.A).length
 fx:oF r.X K
 fy:oF r.Y K
 fr:oF r.Ray K
 call:∀ bu:Int,0 <= bu -> bu <= 9223372036854775807 -> YA Tryz.prog 25 [aP p,aI bu] (.ret (if (T:Int) <= bu then srV r T else .tup [aSR0,aI 10]))
theorem told (p:PB) (L:Nat) (hp:PFits p L):∃ r T,Told p (4 ^ (UA p.A).length * (L + 1)) r T:=by
 obtain ⟨r,T,h1,h2,h3,h4,h5⟩:=rP (GC p)
 have hc:oF (JC (GC p)) L:=by
  rw [<- JL]
  exact CK (n:=(UA p.C).length) ⟨EA _,hp.cf⟩ hp.l1
 have hT:=h5 T
 rw [if_pos (EA _)] at hT
 obtain ⟨f1,f2,f3⟩:=MQ (P:=GC p) hp.sd hc hT
 refine ⟨r,T,by omega,h2,h3,h4,f1,f2,f3,fun bu b0 b1=>?_⟩
 have:=lS p bu L hp b0 b1
 rw [solvV_is hp.rb b0,h5] at this
 by_cases hT:(T:Int) <= bu
 ·rw [if_pos (by omega)] at this
  rw [if_pos hT]
  have e:bu - ((bu.toNat - T:Nat):Int) = T:=by omega
  dsimp only at this
  rw [e] at this
  exact this
 ·rw [if_neg (by omega)] at this
  rw [if_neg hT]
  exact this
theorem told2 (p q:PB) (L K:Nat) (hp:PFits p L) (hq:PFits q K) (he:GC p = GC q):∃ r T,Told p (4 ^ (UA p.A).length * (L + 1)) r T /\ Told q (4 ^ (UA q.A).length * (K + 1)) r T /\ ∃ c,c <= (UA p.A).length /\ T + 1 <= jR ((UA p.C).length + (UA p.A).length) (UA p.A).length + jR (UA p.C).length c:=by
 obtain ⟨r,T,h1,h2,h3,h4,h5⟩:=rP (GC p)
 obtain ⟨r2,T2,⟨c,k1,k2⟩,_,_,_,k5⟩:=solve_main2 (GC p)
 have hTT:T = T2:=by
  have a1:=h5 T
  have a2:=k5 T
  rw [if_pos (EA _)] at a1
  rw [a1] at a2
  have b1:=k5 T2
  have b2:=h5 T2
  rw [if_pos (EA _)] at b1
  rw [b1] at b2
  have c1:T2 <= T:=by
   refine Nat.not_lt.1 (fun h=>?_)
   rw [if_neg (by omega)] at a2
   cases a2
  have c2:T <= T2:=by
   refine Nat.not_lt.1 (fun h=>?_)
   rw [if_neg (by omega)] at b2
   cases b2
  omega
 have key:∀ (p:PB) (L:Nat),PFits p L -> (T + 1 < 2 * AI (GC p) + 1) -> ZR (GC p) r -> (r.v = 2 \/ Crn (GC p) r.X) -> r.bs.length = (GC p).m -> (∀ rem,zH (GC p) rem = if T <= rem then PA { r with rem:=rem - T } else QA) -> Told p (4 ^ (UA p.A).length * (L + 1)) r T:=fun p L hp h1 h2 h3 h4 h5=>by
  have hc:oF (JC (GC p)) L:=by
   rw [<- JL]
   exact CK (n:=(UA p.C).length) ⟨EA _,hp.cf⟩ hp.l1
  have hT:=h5 T
  rw [if_pos (EA _)] at hT
  obtain ⟨f1,f2,f3⟩:=MQ (P:=GC p) hp.sd hc hT
  refine ⟨by omega,h2,h3,h4,f1,f2,f3,fun bu b0 b1=>?_⟩
  have:=lS p bu L hp b0 b1
  rw [solvV_is hp.rb b0,h5] at this
  by_cases hT:(T:Int) <= bu
  ·rw [if_pos (by omega)] at this
   rw [if_pos hT]
   have e:bu - ((bu.toNat - T:Nat):Int) = T:=by omega
   dsimp only at this
   rw [e] at this
   exact this
  ·rw [if_neg (by omega)] at this
   rw [if_neg hT]
   exact this
 refine ⟨r,T,key p L hp h1 h2 h3 h4 h5,?_,c,k1,by rw [hTT];exact k2⟩
 rw [he] at h1 h2 h3 h4 h5
 exact key q K hq h1 h2 h3 h4 h5
abbrev nW (n:Nat) (v:VV):VV:=Option.map (fun x=>List.take n x) v
theorem nQ (n:Nat) (v:VV):UA (nW n v) = (UA v).take n:=by cases v <;> simp [UA]
abbrev c50:CC:=(.seq (.reg [(oD 2 (.mv nC))]) (.seq (.seq (.reg [(mV 3 0),(oD 4 (.isnil TA TA (tP 3)))]) (.cond (tP 4) (.seq (.reg [(oD 2 (.mv nC))]) .ret) .skip)) (.seq (.reg [(oD 5 (.mkrow 48 3 [])),(mV 6 0),(oD 7 (.append 48 3 56 (tP 5) (tP 6))),(mV 2 7)]) .ret)))
theorem cc50:ZA Tryz.prog [] (Tryz.f50.body.getD .skip) = PA c50:=by kernel_rfl
theorem body50:Tryz.f50.body = PA (Tryz.f50.body.getD .skip):=rfl
theorem cloneV_nil:YA Tryz.prog 50 [aV QA] (.ret (aV QA)):=by
 refine WA (rs:=[(RV.tmp 2)]) Tryz.func50 (fun a w=>Tryz.call50 a w) body50 cc50 (by kernel_rfl) ?_
 rw [Tryz.ntmps50]
 simp only [pC,nA,nS]
 repeat (first | (with_reducible first | refine W8 ?_ | refine VA rfl ?_) | ((with_reducible refine X8 fun K hK=>?_);simp (disch:=first | omega | simp only [sB];omega) only [qB,reduceIte,reduceCtorEq,iT,nA,nS,nM,iA,iS,iM,iN,fU,Option.isNone];subst hK))
 exact ⟨_,rfl,rfl⟩
theorem cloneV_C (l:List RR) (hl:l.length <= 1000000):YA Tryz.prog 50 [aV (PA l)] (.fresh 48 3 (l.map fR) SA):=by
 refine WA (rs:=[(RV.tmp 2)]) Tryz.func50 (fun a w=>Tryz.call50 a w) body50 cc50 (by kernel_rfl) ?_
 rw [Tryz.ntmps50]
 simp only [pC,nA,nS]
 repeat (first | (with_reducible first | refine W8 ?_ | refine VA rfl ?_) | ((with_reducible refine X8 fun K hK=>?_);simp (disch:=first | omega | simp only [sB];omega) only [qB,reduceIte,reduceCtorEq,iT,nA,nS,nM,iA,iS,iM,iN,fU,Option.isNone];subst hK))
 exact ⟨_,rfl,JD.fresh_enc rfl⟩
theorem cloneV_R (l:VV) (hl:(UA l).length <= 1000000):YA Tryz.prog 50 [aV l] (.ret (aV l)):=by
 cases l with
 | none=>exact cloneV_nil
 | some l=>exact (cloneV_C l hl).fresh_ret
abbrev c49:CC:=(.seq (.reg [(oD 6 (.new 56 [(.int .i64 (0)),(.slice QA 0 0),(.bool TA),(.slice QA 0 0),(.slice QA 0 0)]))]) (.seq (.regn TA [(mV 7 0),(mV 8 1),(lF 9 1 2),(nL 10 9),(oD 11 (.cutc 3 (tP 8) QA (PA (tP 10)) QA)),(oD 12 (.callf (.func 50) [(tP 11)])),(fA 13 2 3),(lF 14 1 13),(mV 15 1),(oD 16 (.callf (.func 29) [(tP 14),(tP 15)])),(oD 17 (.build [(.int .i64 (0)),(.slice QA 0 0),(.bool TA),(.slice QA 0 0),(.slice QA 0 0)] [(0,(1,(tP 7))),(1,(1,(tP 12))),(2,(3,(tP 16)))])),(sT 5 6 17)]) .ret))
theorem cc49:ZA Tryz.prog [] (Tryz.f49.body.getD .skip) = PA c49:=by kernel_rfl
theorem body49:Tryz.f49.body = PA (Tryz.f49.body.getD .skip):=rfl
theorem offer_C (kd:Int) (x c:VV) (p:PB) (n L K:Nat) (hC:vC p.C n L) (hx:vC x n K) (hn:n <= 1000) (hL:1 <= L) (hK:1 <= K) (hL2:L <= 8000000) (hK2:K <= 8000000) (hLK:L + K <= 8000000) (hN:n * (L + K + 1) <= 8990000) (hcx:(UA c).length <= (UA x).length) :
  YA Tryz.prog 49 [aI kd,aV x,.one (.iptr [vr c]),.one (.iptr [jB 1 fM p.A,vr p.B,vr p.C])] (.ret (aOf kd (nW (UA c).length x) (eB (aL p.C x)))):=by
 have hx1:=hx.1
 have hcl:=cloneV_R (nW (UA c).length x) (by rw [nQ,List.length_take];omega)
 have hd:=dot_W p.C x n L K hC hx hn hL hK hL2 hK2 hLK hN
 generalize eB (aL p.C x) = q at *
 refine WA (rs:=[(RV.cell 6 5 SA)]) Tryz.func49 (fun a w=>Tryz.call49 a w) body49 cc49 (by kernel_rfl) ?_
 rw [Tryz.ntmps49]
 simp only [pC,nA,nS]
 repeat (first | (with_reducible first | refine W8 ?_ | refine VA rfl ?_) | ((with_reducible refine X8 fun K hK=>?_);simp (disch:=first | omega | simp only [sB];omega) only [qB,reduceIte,reduceCtorEq,iT,nA,nS,nM,iA,iS,iM,iN,fU];subst hK) | refine KB (hcl) rfl rfl rfl ?_ | refine KB (hd) rfl rfl rfl ?_)
 exact ⟨_,rfl,rfl⟩
abbrev aOf0:AV:=.agg [.c (.val (.int .i64 0)),.c (.val (.slice QA 0 0)),.c (.val (.bool TA)),.c (.val (.slice QA 0 0)),.c (.val (.slice QA 0 0))]
abbrev c17:CC:=(.seq (.reg [(oD 3 (.box 37 (tP 0))),(oD 4 (.box 23 (tP 1))),(oD 6 (.new 56 [(.int .i64 (0)),(.slice QA 0 0),(.bool TA),(.slice QA 0 0),(.slice QA 0 0)])),(mI 7 0),(mI 8 0)]) (.seq (.seq (.reg [(fA 13 0 3),(lT 14 3 13),(oD 15 (.callf (.func 48) [(tP 14)])),(uN 16 15),(mV 17 16),(oG 18 17 TA (.load 1 TA (tP 4))),(oG 19 17 TA (.len TA (tP 18))),(oG 20 17 TA (.faddr 3 (tP 3))),(oG 21 17 TA (.load 1 TA (tP 20))),(oG 22 17 TA (.len TA (tP 21))),(oG 23 17 TA (.bin .neq (tP 19) (tP 22))),(pT 24 17 23),(mV 25 24),(oG 26 25 TA (.load 1 TA (tP 4))),(oG 27 25 TA (.len TA (tP 26))),(oG 28 25 TA (.faddr 0 (tP 3))),(oG 29 25 TA (.faddr 2 (tP 28))),(oG 30 25 TA (.load 1 TA (tP 29))),(oG 31 25 TA (.len TA (tP 30))),(oG 32 25 TA (.bin .gtr (tP 27) (tP 31))),(pT 33 25 32)]) (.cond (tP 33) (.seq (.reg [(oD 34 (.build [(.int .i64 (0)),(.slice QA 0 0),(.bool TA),(.slice QA 0 0),(.slice QA 0 0)] [])),(sT 5 6 34),(mI 7 0),(mI 8 1)]) .ret) .skip)) (.seq (.regn SA [(lF 41 1 4),(oD 42 (.callf (.func 19) [(.const (.int .i64 (1)))])),(oD 43 (.callf (.func 44) [(tP 41),(tP 42)])),(fA 44 0 3),(fA 45 2 44),(lF 46 1 45),(nL 47 46),(lF 48 1 4),(nL 49 48),(bB 50 .sub 47 49),(oD 51 (.makec 1 8 [(.int .i64 (0))] (tP 50) (tP 50))),(oD 52 (.callf (.func 34) [(tP 51)])),(oD 53 (.append 48 3 56 (tP 43) (tP 52))),(fA 35 0 3),(fA 36 0 35),(lF 37 1 36),(fA 38 0 3),(fA 39 1 38),(lF 40 1 39),(oD 54 (.build [(.slice QA 0 0),(.slice QA 0 0),(.slice QA 0 0)] [(0,(1,(tP 37))),(1,(1,(tP 40))),(2,(1,(tP 53)))])),(oD 9 (.fill 34 [(.slice QA 0 0),(.slice QA 0 0),(.slice QA 0 0)])),(sT 3 9 54)]) (.seq (.reg [(lT 56 3 9),(mV 57 2),(oD 58 (.callf (.func 25) [(tP 56),(tP 57)])),(mV 55 58),(eX 59 55 0),(eX 60 55 1),(oD 10 (.new 69 [(.int .i64 (0)),(.slice QA 0 0),(.slice QA 0 0),(.slice QA 0 0),(.slice QA 0 0),(.int .i64 (0))])),(sT 6 10 59),(mV 11 60)]) (.seq (.seq (.reg [(mV 61 11),(bC 62 .neq 61 0)]) (.cond (tP 62) (.seq (.reg [(oD 63 (.build [(.int .i64 (0)),(.slice QA 0 0),(.bool TA),(.slice QA 0 0),(.slice QA 0 0)] [])),(mV 64 11),(sT 5 6 63),(mI 7 0),(mV 8 64)]) .ret) .skip)) (.seq (.reg [(oD 65 (.mkfn 49 [(tP 4),(tP 9)])),(mV 12 65)]) (.seq (.seq (.reg [(fA 66 0 10),(lF 67 1 66)]) (.block 0 (.seq (.reg [(bC 69 .eql 67 1),(mV 68 69)]) (.cond (tP 68) (.seq (.regn TA [(mV 70 12),(oD 71 (.faddrc 1 (tP 10))),(oD 72 (.loadc 1 TA (tP 71))),(oD 73 (.callf (tP 70) [(.const (.int .i64 (1))),(tP 72)])),(oD 74 (.faddrc 5 (tP 10))),(oD 75 (.loadc 1 TA (tP 74))),(sT 5 6 73),(mV 7 75),(mI 8 0)]) .ret) (.seq (.reg [(bC 77 .eql 67 3),(mV 76 77)]) (.cond (tP 76) (.seq (.regn TA [(mV 78 12),(oD 79 (.faddrc 3 (tP 10))),(oD 80 (.loadc 1 TA (tP 79))),(oD 81 (.callf (tP 78) [(.const (.int .i64 (2))),(tP 80)])),(oD 82 (.faddrc 5 (tP 10))),(oD 83 (.loadc 1 TA (tP 82))),(sT 5 6 81),(mV 7 83),(mI 8 0)]) .ret) .skip)))))) (.seq (.regn TA [(oD 84 (.callf (.func 19) [(.const (.int .i64 (0)))])),(oD 85 (.build [(.int .i64 (0)),(.slice QA 0 0),(.bool TA),(.slice QA 0 0),(.slice QA 0 0)] [(2,(3,(tP 84)))])),(oD 86 (.faddrc 5 (tP 10))),(oD 87 (.loadc 1 TA (tP 86))),(sT 5 6 85),(mV 7 87),(mI 8 0)]) .ret))))))))
theorem cc17:ZA Tryz.prog [] (Tryz.f17.body.getD .skip) = PA c17:=by kernel_rfl
theorem body17:Tryz.f17.body = PA (Tryz.f17.body.getD .skip):=rfl
def yI (p:PB) (c:VV):List Rat:=((UA c).map fun r=>r.val) ++ jA ((UA p.C).length - (UA c).length) 0
def WH (p:PB) (c:VV):PB:=⟨p.A,p.B,aQ (yI p c)⟩
theorem askC_len {p:PB} {c:VV} (h:(UA c).length <= (UA p.C).length):(yI p c).length = (UA p.C).length:=by unfold yI;rw [sA,eA,tA];omega
theorem mR (l:List Rat) (m:Nat):wB fR (l.map eB) ++ wB fR (UA (aQ (jA m 0))) = wB fR ((l ++ jA m 0).map eB):=by
 rw [RE,XC,List.map_append]
theorem ask_err (p:PB) (vs:Option (List Int)) (c:VV) (bu e:Int) (n L:Nat) (hc:vC c n L) (hn:n <= 1000) (hL:1 <= L) (hL2:L <= 4000000) (hr:AD p = SA) (h1:(UA c).length = (UA vs).length) (h2:(UA c).length <= (UA p.C).length)
  (he:e ≠ 0) (hs:YA Tryz.prog 25 [aP (WH p c),aI bu] (.ret (.tup [aSR0,aI e]))) :
  YA Tryz.prog 17 [aBk p vs,aV c,aI bu] (.ret (.tup [aOf0,aI 0,aI e])):=by
 have hri:=eM p
 rw [hr] at hri
 have hC5:=(qG hr).1
 have h1':((UA c).length:Int) = (UA vs).length:=by omega
 have hint:=KE 1 (by omega) (by omega)
 rw [show ((1:Int):Rat) = 1 from rfl] at hint
 have hsc:=vscale_N c (eB 1) n L hc (QB (FE L hL)) (by omega) hL hL2
 have hsq:JE c (eB 1).val = (UA c).map fun r=>r.val:=by unfold JE;rw [rawQ_val];simp only [Rat.mul_one]
 rw [hsq] at hsc
 obtain ⟨d,hd⟩:∃ d:Nat,(UA p.C).length = (UA c).length + d:=⟨(UA p.C).length - (UA c).length,by omega⟩
 have hdi:((UA p.C).length:Int) - (UA vs).length = (d:Int):=by omega
 have hz:=sL d (by omega)
 have hzc:jB 1 fI (PA (jA d 0)) = .sl 1 (jA d [.val (.int .i64 0)]):=by show CV.sl 1 ((jA d 0).map fI) = _;rw [List.map_replicate];rfl
 rw [hzc] at hz
 have hap:=mR ((UA c).map fun r=>r.val) d
 have hask:yI p c = ((UA c).map fun r=>r.val) ++ jA d 0:=by unfold yI;rw [hd,Nat.add_sub_cancel_left]
 unfold WH at hs
 rw [hask] at hs
 generalize hCC:((UA c).map fun r=>r.val) ++ jA d 0 = CC at *
 have hnn:(!(((UA c).map fun r=>r.val).map eB).isEmpty || !(UA (aQ (jA d (0:Rat)))).isEmpty) = !(CC.map eB).isEmpty:=by
  rw [<- hCC,RE,List.map_append]
  generalize ((UA c).map fun r=>r.val).map eB = a
  generalize (jA d (0:Rat)).map eB = b
  cases a <;> cases b <;> rfl
 refine WA (rs:=[(RV.cell 6 5 SA),(RV.tmp 7),(RV.tmp 8)]) Tryz.func17 (fun a w=>Tryz.call17 a w) body17 cc17 (by kernel_rfl) ?_
 rw [Tryz.ntmps17]
 simp only [pC,nA,nS]
 iterate 22 (first | (with_reducible first | refine W8 ?_ | refine VA rfl ?_) | ((with_reducible refine X8 fun K hK=>?_);simp (disch:=first | omega | simp only [sB];omega) only [qB,reduceIte,reduceCtorEq,iT,nA,nS,nM,iA,iS,iM,iN,fU,h1',hdi,nD,tA,eA,hap];subst hK) | refine KB (hri) rfl rfl rfl ?_ | refine KB (hint) rfl rfl rfl ?_ | (apply KG (hsc) rfl;(case hcl=>(simp only [oE,St.ev,yB,NE];(repeat (first | exact kB | (apply gB;(first | (refine CB rfl (by decide)) | (refine BB rfl (by decide) ?_;assumption) | rfl))));done));(case hu=>(simp only [oE,St.ev,yB,NE];(repeat (first | exact RC | (apply AC;(first | (apply xC;rfl) | rfl))));done));(case hh=>((simp only [YH,EB,nB,nA,IA,if_true,if_false,reduceIte]) <;> rfl))) | refine KB (hz) rfl rfl rfl ?_)
 refine uD.fgt ?_ (TB.cells (b:=3) (els':=[[.c (jB 1 fM p.A),.c (vr p.B),.c (vr (aQ CC))]]) [4] rfl rfl (.cons (.cons (.inl rfl) (.cons (.inl rfl) (.cons ((JG (c:=4) rfl (by decide) hnn (by simp)).2 0 _ _ rfl rfl) .nil))) .nil))
 rw [oC]
 simp only [lA,mA,YH,EB,nB,nA,IA,if_true,if_false,reduceIte]
 repeat (first | (with_reducible first | refine W8 ?_ | refine VA rfl ?_) | ((with_reducible refine X8 fun K hK=>?_);simp (disch:=first | omega | simp only [sB];omega) only [qB,reduceIte,reduceCtorEq,iT,nA,nS,nM,iA,iS,iM,iN,fU,he];subst hK) | refine KB (hs) rfl rfl rfl ?_)
 exact ⟨_,rfl,rfl⟩
def offV (p:PB) (c:VV) (r:SR):AV :=
 if r.v = 1 then aOf 1 (nW (UA c).length (aQ r.X)) (eB (aL (aQ (yI p c)) (aQ r.X))) else
 if r.v = 3 then aOf 2 (nW (UA c).length (aQ r.Ray)) (eB (aL (aQ (yI p c)) (aQ r.Ray))) else aOf 0 QA (eB 0)
theorem ask_ok (p:PB) (vs:Option (List Int)) (c:VV) (bu:Int) (n L K:Nat) (hc:vC c n L) (hn:n <= 1000) (hL:1 <= L) (hK:1 <= K) (hL2:L <= 4000000) (hK2:K <= 4000000) (hN:n * (L + K + 1) <= 8990000) (hr:AD p = SA) (h1:(UA c).length = (UA vs).length) (h2:(UA c).length <= (UA p.C).length)
  (hpn:(UA p.C).length <= n) (r:SR) (T:Nat) (hX:oF r.X K) (hY:oF r.Ray K) (hp:ZR (GC (WH p c)) r)
  (hs:YA Tryz.prog 25 [aP (WH p c),aI bu] (.ret (srV r T))) :
  YA Tryz.prog 17 [aBk p vs,aV c,aI bu] (.ret (.tup [offV p c r,aI T,aI 0])):=by
 have hri:=eM p
 rw [hr] at hri
 have hC5:=(qG hr).1
 have h1':((UA c).length:Int) = (UA vs).length:=by omega
 have hint:=KE 1 (by omega) (by omega)
 rw [show ((1:Int):Rat) = 1 from rfl] at hint
 have hsc:=vscale_N c (eB 1) n L hc (QB (FE L hL)) (by omega) hL hL2
 have hsq:JE c (eB 1).val = (UA c).map fun r=>r.val:=by unfold JE;rw [rawQ_val];simp only [Rat.mul_one]
 rw [hsq] at hsc
 obtain ⟨d,hd⟩:∃ d:Nat,(UA p.C).length = (UA c).length + d:=⟨(UA p.C).length - (UA c).length,by omega⟩
 have hdi:((UA p.C).length:Int) - (UA vs).length = (d:Int):=by omega
 have hz:=sL d (by omega)
 have hzc:jB 1 fI (PA (jA d 0)) = .sl 1 (jA d [.val (.int .i64 0)]):=by show CV.sl 1 ((jA d 0).map fI) = _;rw [List.map_replicate];rfl
 rw [hzc] at hz
 have hap:=mR ((UA c).map fun r=>r.val) d
 have hask:yI p c = ((UA c).map fun r=>r.val) ++ jA d 0:=by unfold yI;rw [hd,Nat.add_sub_cancel_left]
 have hi0:=KE 0 (by omega) (by omega)
 rw [show ((0:Int):Rat) = 0 from rfl] at hi0
 have hal:=askC_len h2
 have hCf:vC (aQ (yI p c)) n L:=nE (by omega) (fun q hq=>by
  unfold yI at hq
  rcases List.mem_append.1 hq with h | h
  ·obtain ⟨x,hx,rfl⟩:=yA.1 h
   exact (hc.2 x hx).val hL
  ·rw [(List.mem_replicate.1 h).2];exact HC _ hL)
 have hPn:(GC (WH p c)).n = (UA p.C).length:=by show (UA (aQ (yI p c))).length = _;rw [nD,hal]
 have hof1:r.v = 1 -> YA Tryz.prog 49 [aI 1,aV (aQ r.X),.one (.iptr [vr c]),.one (.iptr [jB 1 fM p.A,vr p.B,vr (aQ (yI p c))])] (.ret (aOf 1 (nW (UA c).length (aQ r.X)) (eB (aL (aQ (yI p c)) (aQ r.X))))):=fun hv=>by
  have hl:r.X.length = (UA p.C).length:=by
   rw [<- hPn]
   exact (prov_feas hp (by omega)).1
  exact offer_C 1 (aQ r.X) c (WH p c) n L K hCf (nE (by omega) hX) hn hL hK (by omega) (by omega) (by omega) hN (by rw [nD];omega)
 have hof3:r.v = 3 -> YA Tryz.prog 49 [aI 2,aV (aQ r.Ray),.one (.iptr [vr c]),.one (.iptr [jB 1 fM p.A,vr p.B,vr (aQ (yI p c))])] (.ret (aOf 2 (nW (UA c).length (aQ r.Ray)) (eB (aL (aQ (yI p c)) (aQ r.Ray))))):=fun hv=>by
  have hl:r.Ray.length = (UA p.C).length:=by
   rw [<- hPn]
   rcases hp with ⟨h,_⟩ | ⟨h,_⟩ | ⟨_,_,_,h,_⟩
   ·omega
   ·omega
   ·exact h
  exact offer_C 2 (aQ r.Ray) c (WH p c) n L K hCf (nE (by omega) hY) hn hL hK (by omega) (by omega) (by omega) hN (by rw [nD];omega)
 unfold offV
 unfold WH at hs
 rw [hask] at hs hof1 hof3 ⊢
 unfold srV jS at hs
 clear hp hX hY hCf hal hask hPn
 generalize hCC:((UA c).map fun r=>r.val) ++ jA d 0 = CC at *
 have hnn:(!(((UA c).map fun r=>r.val).map eB).isEmpty || !(UA (aQ (jA d (0:Rat)))).isEmpty) = !(CC.map eB).isEmpty:=by
  rw [<- hCC,RE,List.map_append]
  generalize ((UA c).map fun r=>r.val).map eB = a
  generalize (jA d (0:Rat)).map eB = b
  cases a <;> cases b <;> rfl
 generalize aL (aQ CC) (aQ r.X) = dx at *
 generalize aL (aQ CC) (aQ r.Ray) = dr at *
 generalize aQ r.Y = cY at *
 generalize jB 1 fI (aC (MB r.bs)) = cb at *
 generalize aQ r.X = cX at *
 generalize aQ r.Ray = cR at *
 generalize r.v = rv at *
 refine WA (rs:=[(RV.cell 6 5 SA),(RV.tmp 7),(RV.tmp 8)]) Tryz.func17 (fun a w=>Tryz.call17 a w) body17 cc17 (by kernel_rfl) ?_
 rw [Tryz.ntmps17]
 simp only [pC,nA,nS]
 iterate 22 (first | (with_reducible first | refine W8 ?_ | refine VA rfl ?_) | ((with_reducible refine X8 fun K hK=>?_);simp (disch:=first | omega | simp only [sB];omega) only [qB,reduceIte,reduceCtorEq,iT,nA,nS,nM,iA,iS,iM,iN,fU,h1',hdi,nD,tA,eA,hap];subst hK) | refine KB (hri) rfl rfl rfl ?_ | refine KB (hint) rfl rfl rfl ?_ | (apply KG (hsc) rfl;(case hcl=>(simp only [oE,St.ev,yB,NE];(repeat (first | exact kB | (apply gB;(first | (refine CB rfl (by decide)) | (refine BB rfl (by decide) ?_;assumption) | rfl))));done));(case hu=>(simp only [oE,St.ev,yB,NE];(repeat (first | exact RC | (apply AC;(first | (apply xC;rfl) | rfl))));done));(case hh=>((simp only [YH,EB,nB,nA,IA,if_true,if_false,reduceIte]) <;> rfl))) | refine KB (hz) rfl rfl rfl ?_)
 refine uD.fgt ?_ (TB.cells (b:=3) (els':=[[.c (jB 1 fM p.A),.c (vr p.B),.c (vr (aQ CC))]]) [4] rfl rfl (.cons (.cons (.inl rfl) (.cons (.inl rfl) (.cons ((JG (c:=4) rfl (by decide) hnn (by simp)).2 0 _ _ rfl rfl) .nil))) .nil))
 rw [oC]
 simp only [lA,mA,YH,EB,nB,nA,IA,if_true,if_false,reduceIte]
 refine uD.fgt ?_ (TB.closeP (i:=4) (cs:=[vr c]) rfl rfl)
 rw [oC]
 simp only [lA,mA,YH,EB,nB,nA,IA,if_true,if_false,reduceIte]
 refine uD.fgt ?_ (TB.closeP (i:=9) (cs:=[jB 1 fM p.A,vr p.B,vr (aQ CC)]) rfl rfl)
 rw [oC]
 simp only [lA,mA,YH,EB,nB,nA,IA,if_true,if_false,reduceIte]
 iterate 5 (first | (with_reducible first | refine W8 ?_ | refine VA rfl ?_) | ((with_reducible refine X8 fun K hK=>?_);simp (disch:=first | omega | simp only [sB];omega) only [qB,reduceIte,reduceCtorEq,iT,nA,nS,nM,iA,iS,iM,iN,fU];subst hK) | refine KB (hs) rfl rfl rfl ?_)
 refine uD.fgt ?_ (TB.closeP (i:=10) (cs:=[.val (.int .i64 (rv:Int)),vr cX,vr cY,vr cR,cb,.val (.int .i64 (T:Int))]) rfl rfl)
 rw [oC]
 simp only [lA,mA,YH,EB,nB,nA,IA,if_true,if_false,reduceIte]
 by_cases hv1:rv = 1
 ·have hof:=hof1 hv1
  rw [if_pos hv1]
  subst hv1
  repeat (first | (with_reducible first | refine W8 ?_ | refine VA rfl ?_) | ((with_reducible refine X8 fun K hK=>?_);simp (disch:=first | omega | simp only [sB];omega) only [qB,reduceIte,reduceCtorEq,iT,nA,nS,nM,iA,iS,iM,iN,fU];subst hK) | refine zcV (hof) rfl rfl rfl ?_)
  exact ⟨_,rfl,rfl⟩
 ·have hi1:¬ (rv:Int) = 1:=by omega
  rw [if_neg hv1]
  by_cases hv3:rv = 3
  ·have hof:=hof3 hv3
   rw [if_pos hv3]
   subst hv3
   repeat (first | (with_reducible first | refine W8 ?_ | refine VA rfl ?_) | ((with_reducible refine X8 fun K hK=>?_);simp (disch:=first | omega | simp only [sB];omega) only [qB,reduceIte,reduceCtorEq,iT,nA,nS,nM,iA,iS,iM,iN,fU];subst hK) | refine zcV (hof) rfl rfl rfl ?_)
   exact ⟨_,rfl,rfl⟩
  ·have hi3:¬ (rv:Int) = 3:=by omega
   rw [if_neg hv3]
   repeat (first | (with_reducible first | refine W8 ?_ | refine VA rfl ?_) | ((with_reducible refine X8 fun K hK=>?_);simp (disch:=first | omega | simp only [sB];omega) only [qB,reduceIte,reduceCtorEq,iT,nA,nS,nM,iA,iS,iM,iN,fU];subst hK) | refine KB (hi0) rfl rfl rfl ?_)
   exact ⟨_,rfl,rfl⟩
end Go.Proofs.YtncgbjhojbnecaaGreat
namespace Go.Proofs.YtncgbjhojbnecaaGreat
open Go Go.Am Go.Proofs Go.Off
open Nat renaming reduceAdd -> nA,reduceSub -> nS,reduceMul -> nM,reduceBEq -> nB
open Int renaming reduceToNat -> iT,reduceAdd -> iA,reduceSub -> iS,reduceMul -> iM,reduceNeg -> iN
theorem qL (l:List UInt8):eF (wB f8 l) = PA l:=by
 induction l with
 | nil=>rfl
 | cons c l ih =>
  have e:wB f8 (c :: l) = [Cell.c (.val (.int .u8 (c.toNat:Int)))] :: wB f8 l:=rfl
  rw [e]
  simp only [eF,ih,Option.map_some,Int.toNat_natCast]
  congr 2
  exact UInt8.ofNat_toNat
theorem ten_bound {m L X:Nat} (h1:10 ^ m <= X) (h2:X < 4294967296 ^ L):m <= 10 * L:=by
 have h3:(4294967296:Nat) ^ L <= (10 ^ 10) ^ L:=Nat.pow_le_pow_left (by decide) L
 rw [<- Nat.pow_mul] at h3
 refine Decidable.byContradiction fun h=>?_
 have h4:(10:Nat) ^ (10 * L) <= 10 ^ m:=Nat.pow_le_pow_right (by decide) (by omega)
 omega
theorem rv_snoc (out:List UInt8) (d:Nat) (hd:d < 10):rv (out ++ [chr d]) = rv out + 10 ^ out.length * d:=by
 rw [qH]
 simp [rv,wG hd]
abbrev c80_k1:CC:=(.seq (.seq (.reg [(mV 56 3),(nL 57 56),(bC 58 .eql 57 0)]) (.cond (tP 58) (.seq (.reg [(oD 2 (.mv (.const (.string ⟨#[48]⟩))))]) .ret) .skip)) (.seq (.reg [(mV 59 3),(oD 60 (.callf (.func 117) [(tP 59)]))]) (.seq (.reg [(mV 61 3),(oD 62 (.bstr (tP 61))),(mV 2 62)]) .ret)))
abbrev c80_b1:CC:=(.seq (.seq (.reg [(mV 39 3),(nL 40 39),(bC 41 .gtr 40 1),(mV 42 41),(gM 43 42 SA 3),(gM 44 42 SA 3),(oG 45 42 SA (.len TA (tP 44))),(oG 46 42 SA (.bin .sub (tP 45) (.const (.int .i64 (1))))),(oG 47 42 SA (.iaddr 1 QA (tP 43) (tP 46))),(oG 48 42 SA (.load 1 TA (tP 47))),(oG 49 42 SA (.bin .eql (tP 48) (.const (.int .u8 (48))))),(pF 50 42 49)]) (.cond (tP 50) .skip (.exit 4))) (.block 5 (.reg [(mV 51 3),(mV 52 3),(nL 53 52),(bC 54 .sub 53 1),(oD 55 (.slice 1 (tP 51) QA (PA (tP 54)) QA)),(mV 3 55)])))
abbrev c80_k2:CC:=(.seq (.block 4 (.loop c80_b1)) c80_k1)
abbrev c80_k3:CC:=(.reg [(mV 38 4),(mV 0 38)])
abbrev c80_b2:CC:=(.seq (.reg [(bC 27 .lss 26 9)]) (.seq (.cond (tP 27) .skip (.exit 2)) (.seq (.block 3 (.seq (.reg [(mV 28 3),(mV 29 7),(oD 30 (.bin .rem (tP 29) (.const (.int .u64 (10))))),(oD 31 (.bin .add (.const (.int .u64 (48))) (tP 30))),(oD 32 (.conv .u8 (tP 31))),(oD 33 (.mkrow 5 1 [(tP 32)])),(oD 34 (.append 5 1 1 (tP 28) (tP 33))),(mV 3 34)]) (.reg [(mV 35 7),(oD 36 (.bin .quo (tP 35) (.const (.int .u64 (10))))),(mV 7 36)]))) (.reg [(bC 37 .add 26 1),(mV 26 37)]))))
abbrev c80_b3:CC:=(.seq (.seq (.reg [(mV 11 0),(nL 12 11),(bC 13 .gtr 12 0)]) (.cond (tP 13) .skip (.exit 0))) (.block 1 (.seq (.reg [(mV 15 0),(oD 16 (.callf (.func 52) [(.const (.int .u64 (1000000000)))])),(oD 17 (.callf (.func 88) [(tP 15),(tP 16)])),(mV 14 17),(eX 18 14 0),(eX 19 14 1),(eX 20 14 2),(mV 4 18),(mV 5 19),(mV 6 20)]) (.seq (.reg [(mV 22 5),(oD 23 (.callf (.func 116) [(tP 22)])),(mV 21 23),(eX 24 21 0),(eX 25 21 1),(mV 7 24),(mV 8 25)]) (.seq (.seq (.reg [(mI 26 0)]) (.block 2 (.loop c80_b2))) c80_k3)))))
abbrev c80:CC:=(.seq (.reg [(oD 2 (.mv (.const (.string ⟨#[]⟩))))]) (.seq (.reg [(oD 3 (.mv nC))]) (.seq (.seq (.reg [(mV 9 0),(oD 10 (.callf (.func 92) [(tP 9)])),(mV 0 10)]) (.block 0 (.loop c80_b3))) c80_k2)))
theorem cc80:ZA Tryz.prog [117] (Tryz.f80.body.getD .skip) = PA c80:=by kernel_rfl
theorem body80:Tryz.f80.body = PA (Tryz.f80.body.getD .skip):=rfl
theorem text_C (a:iG) (ha:(UA a).length <= 10000000):YA Tryz.prog 80 [aN a] (.ret (aS (ZC a.val))):=by
 refine WA (rs:=[(RV.tmp 2)]) Tryz.func80 (fun a w=>Tryz.call80 a w) body80 cc80 (by kernel_rfl) ?_
 rw [Tryz.ntmps80]
 simp only [pC,nA,nS]
 have hta:=jF a (by omega)
 change YA _ _ _ (.ret (aN (KD a))) at hta
 have hsa:=SF a
 have hla:=NC a
 have hva:(KD a).val = a.val:=by show val (UA (KD a)) = _;rw [hsa,FC]
 have hX:=IE (UA a)
 change a.val < _ at hX
 rw [<- hva] at hsa hla hX ⊢
 generalize KD a = s at *
 repeat (first | (with_reducible first | refine W8 ?_ | refine VA rfl ?_) | ((with_reducible refine X8 fun K hK=>?_);simp (disch:=first | omega | simp only [sB];omega) only [qB,reduceIte,reduceCtorEq,iT,nA,nS,nM,iA,iS,iM,iN,fU];subst hK) | refine KB (hta) rfl rfl rfl ?_)
 refine uD.fgt ?_ (TB.openNil (i:=3) rfl 5 1)
 simp only [lA,mA,pA,oA,qA,rA,nA]
 refine xB (fun (zz:iG × (List UInt8) × Nat × Bool)=>⟨(aN zz.1 :: .junk :: aS [] :: .one (.own 0 zz.2.2.1) :: K8 (L8 (J8 (.junk :: .junk :: .junk :: [])))),[⟨zz.2.2.1,5,1,wB f8 zz.2.1,SA,zz.2.2.2⟩]⟩) (fun (zz:iG × (List UInt8) × Nat × Bool)=>UA zz.1 = DB zz.1.val /\ rv zz.2.1 + 10 ^ zz.2.1.length * zz.1.val = s.val /\ (∀ c ∈ zz.2.1,jD c) /\ zz.2.2.2 = !zz.2.1.isEmpty /\ (UA zz.1).length <= 10000000 /\ (zz.2.1 ≠ [] -> s.val ≠ 0) /\ zz.2.1.length <= 200000000) (fun (zz:iG × (List UInt8) × Nat × Bool)=>zz.1.val) (s,[],0,TA) ?hI1 (TB.headN (fN 1) [SA,TA,SA,SA]) ?hB1
 ·dsimp only
  exact ⟨hsa,by simp [rv],by simp,rfl,by rw [hsa];omega,fun h=>absurd rfl h,by simp⟩
 rintro ⟨A,out,v,nn⟩ ⟨hA,hrv,hdig,hnn,hlA,hne,hlo⟩
 dsimp only at hA hrv hdig hnn hlA hne hlo
 by_cases hz:A.val = 0
 ·have hl:(UA A).length = 0:=by rw [hA,hz,zC];rfl
  rw [hz,Nat.mul_zero,Nat.add_zero] at hrv
  repeat (first | (with_reducible first | refine W8 ?_ | refine VA rfl ?_) | ((with_reducible refine X8 fun K hK=>?_);simp (disch:=first | omega | simp only [sB];omega) only [qB,reduceIte,reduceCtorEq,iT,nA,nS,nM,iA,iS,iM,iN,fU];subst hK))
  refine xB (fun (zz:(List UInt8) × Nat × Bool)=>⟨(.junk :: .junk :: aS [] :: .one (.own 0 zz.2.1) :: K8 (L8 (J8 (.junk :: .junk :: .junk :: [])))),[⟨zz.2.1,5,1,wB f8 zz.1,SA,zz.2.2⟩]⟩) (fun (zz:(List UInt8) × Nat × Bool)=>rv zz.1 = s.val /\ (∀ c ∈ zz.1,jD c) /\ zz.2.2 = !zz.1.isEmpty /\ (zz.1 ≠ [] -> s.val ≠ 0) /\ zz.1.length <= 200000000) (fun (zz:(List UInt8) × Nat × Bool)=>zz.1.length) (out,v,nn) ?hI2 (TB.headA (fN 1) [TA,TA,SA,SA]) ?hB2
  ·dsimp only;exact ⟨hrv,hdig,hnn,hne,hlo⟩
  clear hrv hdig hnn hne hlo
  rintro ⟨out2,v2,nn2⟩ ⟨hrv,hdig,hnn,hne,hlo⟩
  dsimp only at hrv hdig hnn hne hlo
  by_cases h0:out2.length = 0
  ·have h00:=List.length_eq_zero_iff.1 h0
   have hs0:s.val = 0:=by rw [<- hrv,h00];rfl
   repeat (first | (with_reducible first | refine W8 ?_ | refine VA rfl ?_) | ((with_reducible refine X8 fun K hK=>?_);simp (disch:=first | omega | simp only [sB];omega) only [qB,reduceIte,reduceCtorEq,iT,nA,nS,nM,iA,iS,iM,iN,fU];subst hK))
   refine ⟨_,rfl,?_⟩
   rw [hs0]
   exact rfl
  ·have hnn2:nn2 = SA:=by rw [hnn];cases out2 with | nil=>exact absurd rfl h0 | cons c l=>rfl
   subst hnn2
   have hne2:out2 ≠ []:=fun e=>h0 (by rw [e];rfl)
   have hi:((out2.length:Int) - 1).toNat = out2.length - 1:=by omega
   have hlast:out2.getLast hne2 = out2[out2.length - 1]'(by omega):=List.getLast_eq_getElem _
   have fin:out2[out2.length - 1]'(by omega) ≠ 48 -> tJ s.val = out2:=fun h=>by
    rw [<- hrv]
    exact rdec_rv hdig (fun _=>by rw [hlast];exact h)
   have hdec:tJ s.val = out2 -> ZC s.val = out2.reverse:=fun h=>by
    unfold ZC;rw [if_neg (hne hne2),h]
   have hrev:=reverse_C out2 v2 (by omega) (by omega)
   by_cases h1:out2.length = 1
   ·have h48:out2[out2.length - 1]'(by omega) ≠ 48:=fun e=>by
     obtain ⟨c,rfl⟩:=List.length_eq_one_iff.1 h1
     simp at e
     subst e
     exact hne (by simp) (by rw [<- hrv];rfl)
    rw [hdec (fin h48)]
    repeat (first | (with_reducible first | refine W8 ?_ | refine VA rfl ?_) | ((with_reducible refine X8 fun K hK=>?_);simp (disch:=first | omega | simp only [sB];omega) only [qB,reduceIte,reduceCtorEq,iT,nA,nS,nM,iA,iS,iM,iN,fU,qL];subst hK) | (apply PD (hrev) rfl rfl))
    exact ⟨_,rfl,rfl⟩
   ·have hd2:=hdig _ (gA (show out2.length - 1 < out2.length by omega))
    by_cases h48:out2[out2.length - 1]'(by omega) = 48
    ·have hc:(out2[out2.length - 1]'(by omega)).toNat = 48:=by rw [h48];rfl
     repeat (first | (with_reducible first | refine W8 ?_ | refine VA rfl ?_) | ((with_reducible refine X8 fun K hK=>?_);simp (disch:=first | omega | simp only [sB];omega) only [qB,reduceIte,reduceCtorEq,iT,nA,nS,nM,iA,iS,iM,iN,fU,hi,f8,hc,encB_take];subst hK))
     refine ⟨(out2.take (out2.length - 1),v2 + 1,SA),?hI3,?hM3,TB.headA (fN 1) [TA,TA,SA,SA]⟩
     ·dsimp only
      have e:=List.take_append_getLast out2 hne2
      refine ⟨?_,fun c hc=>hdig c (List.mem_of_mem_take hc),?_,fun _=>hne hne2,by simp;omega⟩
      ·have e2:out2 = out2.take (out2.length - 1) ++ [48]:=by
        conv=>lhs;rw [<- List.dropLast_concat_getLast hne2]
        rw [hlast,h48,List.dropLast_eq_take]
       rw [<- hrv]
       conv=>rhs;rw [e2]
       rw [qH]
       simp [rv]
      ·have:(out2.take (out2.length - 1)).length ≠ 0:=by simp;omega
       cases hq:out2.take (out2.length - 1) with
       | nil=>rw [hq] at this;exact absurd rfl this
       | cons c l=>rfl
     ·dsimp only;simp;omega
    ·have hc:(out2[out2.length - 1]'(by omega)).toNat ≠ 48:=fun e=>h48 (UInt8.toNat_inj.1 (by rw [e];rfl))
     rw [hdec (fin h48)]
     repeat (first | (with_reducible first | refine W8 ?_ | refine VA rfl ?_) | ((with_reducible refine X8 fun K hK=>?_);simp (disch:=first | omega | simp only [sB];omega) only [qB,reduceIte,reduceCtorEq,iT,nA,nS,nM,iA,iS,iM,iN,fU,hi,f8,qL];subst hK) | (apply PD (hrev) rfl rfl))
     exact ⟨_,rfl,rfl⟩
 ·have hl:(UA A).length ≠ 0:=by rw [hA];exact Nat.ne_of_gt (VE hz)
  have hof:=of_C 1000000000 (by decide)
  have hll:(DB 1000000000).length <= 1:=fC (by decide)
  have hdm:=GM A (iC 1000000000) (by omega) (by rw [xD];omega) (by rw [rowN_val];decide)
  rw [rowN_val,if_neg hz] at hdm
  have hR:A.val % 1000000000 < 1000000000:=Nat.mod_lt _ (by decide)
  have hdR:(DB (A.val % 1000000000)).length <= 1:=fC (by omega)
  have hsm:=small_C (iC (A.val % 1000000000)) (by rw [xD];omega) (by rw [rowN_val];omega)
  rw [rowN_val] at hsm
  have hb:out.length <= 100000000:=by
   have h1:10 ^ out.length * 1 <= 10 ^ out.length * A.val:=Nat.mul_le_mul_left _ (by omega)
   have h2:=ten_bound (m:=out.length) (by omega) hX
   omega
  generalize iC 1000000000 = t at *
  generalize iC (A.val % 1000000000) = r at *
  repeat (first | (with_reducible first | refine W8 ?_ | refine VA rfl ?_) | ((with_reducible refine X8 fun K hK=>?_);simp (disch:=first | omega | simp only [sB];omega) only [qB,reduceIte,reduceCtorEq,iT,nA,nS,nM,iA,iS,iM,iN,fU];subst hK) | refine KB (hof) rfl rfl rfl ?_ | refine KB (hdm) rfl rfl rfl ?_ | refine KB (hsm) rfl rfl rfl ?_)
  refine xB (fun (zz:Nat × Nat × (List UInt8) × Nat × Bool)=>⟨(aN A :: .junk :: aS [] :: .one (.own 0 zz.2.2.2.1) :: aN (iC (A.val / 1000000000)) :: .junk :: .junk :: aU zz.2.1 :: L8 (.junk :: .junk :: aI zz.1 :: K8 (J4 ([])))),[⟨zz.2.2.2.1,5,1,wB f8 zz.2.2.1,SA,zz.2.2.2.2⟩]⟩) (fun (zz:Nat × Nat × (List UInt8) × Nat × Bool)=>zz.1 <= 9 /\ zz.2.2.1.length = out.length + zz.1 /\ zz.2.1 < 10 ^ (9 - zz.1) /\ rv zz.2.2.1 + 10 ^ zz.2.2.1.length * zz.2.1 = rv out + 10 ^ out.length * (A.val % 1000000000) /\ (∀ c ∈ zz.2.2.1,jD c) /\ zz.2.2.2.2 = !zz.2.2.1.isEmpty) (fun (zz:Nat × Nat × (List UInt8) × Nat × Bool)=>9 - zz.1) (0,A.val % 1000000000,out,v,nn) ?hI4 (TB.headA (fN 1) [SA,TA,SA,SA,SA,TA,TA,SA,TA,TA,TA,TA,TA,TA,TA,TA,TA,TA,TA,TA,TA,TA,TA,TA,TA,TA,SA]) ?hB4
  ·dsimp only;exact ⟨by omega,by omega,by simpa using hR,rfl,hdig,hnn⟩
  rintro ⟨k,n,out2,v2,nn2⟩ ⟨hk,hlen,hn,hrv2,hdig2,hnn2⟩
  dsimp only at hk hlen hn hrv2 hdig2 hnn2
  by_cases hk9:k = 9
  ·subst hk9
   have hn0:n = 0:=by simp at hn;omega
   rw [hn0,Nat.mul_zero,Nat.add_zero] at hrv2
   repeat (first | (with_reducible first | refine W8 ?_ | refine VA rfl ?_) | ((with_reducible refine X8 fun K hK=>?_);simp (disch:=first | omega | simp only [sB];omega) only [qB,reduceIte,reduceCtorEq,iT,nA,nS,nM,iA,iS,iM,iN,fU];subst hK))
   refine ⟨(iC (A.val / 1000000000),out2,v2,nn2),?hI5,?hM5,TB.headA (fN 1) [SA,TA,SA,SA]⟩
   ·dsimp only
    have hq:A.val / 1000000000 <= A.val:=Nat.div_le_self _ _
    have hql:=mC hq
    rw [<- hA] at hql
    refine ⟨by rw [xD,rowN_val],?_,hdig2,hnn2,by rw [xD];omega,fun _=>?_,by omega⟩
    ·rw [rowN_val,hrv2,hlen,Nat.pow_add,Nat.mul_assoc,Nat.add_assoc,<- Nat.mul_add]
     rw [show (10:Nat) ^ 9 = 1000000000 from rfl,Nat.mod_add_div]
     exact hrv
    ·intro h0
     rw [h0] at hrv
     have:1 * 1 <= 10 ^ out.length * A.val:=Nat.mul_le_mul (Nat.pow_pos (by decide)) (by omega)
     omega
   ·dsimp only
    rw [rowN_val]
    omega
  ·have hd:n % 10 < 10:=Nat.mod_lt _ (by decide)
   have hc8:=wG hd
   have hn9:n < 1000000000:=HA hn (by
    have:=Nat.pow_le_pow_right (n:=10) (by decide) (show 9 - k <= 9 by omega)
    simpa using this)
   have hm:(n:Int).tmod 10 = ((n % 10:Nat):Int):=by rw [gJ (by omega)];simp
   have hq:(n:Int).tdiv 10 = ((n / 10:Nat):Int):=by rw [iJ (by omega)];simp
   have h48:(48:Int) + ((n % 10:Nat):Int) = ((48 + n % 10:Nat):Int):=by omega
   have mk1:[[Cell.c (CV.val (.int .u8 ((48 + n % 10:Nat):Int)))]] = wB f8 [chr (n % 10)]:=by rw [<- hc8];rfl
   repeat (first | (with_reducible first | refine W8 ?_ | refine VA rfl ?_) | ((with_reducible refine X8 fun K hK=>?_);simp (disch:=first | omega | simp only [sB];omega) only [qB,reduceIte,reduceCtorEq,iT,nA,nS,nM,iA,iS,iM,iN,fU,hm,hq,h48,mk1,XC,kA];subst hK))
   have hemp:(!(out2 ++ [chr (n % 10)]).isEmpty) = SA:=by cases out2 <;> rfl
   refine ⟨(k + 1,n / 10,out2 ++ [chr (n % 10)],v2 + 1,SA),?hI6,?hM6,TB.head (fN 1) [SA,TA,SA,SA,SA,TA,TA,SA,TA,TA,TA,TA,TA,TA,TA,TA,TA,TA,TA,TA,TA,TA,TA,TA,TA,TA,SA] ?hT6 ?hH6⟩
   case hT6 | hH6=>first | (simp (disch:=omega) only [pD,IB,lB,XA,clean1,uB,reduceIte,iS,iA,iN,hemp];done) | rfl
   ·dsimp only
    refine ⟨by omega,by simp;omega,?_,?_,?_,hemp.symm⟩
    ·have e:9 - k = (9 - (k + 1)) + 1:=by omega
     rw [e,Nat.pow_succ] at hn
     exact Nat.div_lt_of_lt_mul (by rw [Nat.mul_comm];exact hn)
    ·rw [rv_snoc _ _ hd,sA,List.length_singleton,Nat.pow_succ,Nat.mul_assoc,Nat.add_assoc,<- Nat.mul_add,Nat.mod_add_div]
     exact hrv2
    ·intro c hc
     rcases List.mem_append.1 hc with hc | hc
     ·exact hdig2 c hc
     ·rw [List.mem_singleton.1 hc];exact chr_dig hd
   ·dsimp only;omega
end Go.Proofs.YtncgbjhojbnecaaGreat
namespace Go.Proofs.YtncgbjhojbnecaaGreat
open Go Go.Am Go.Proofs Go.Off
open Nat renaming reduceAdd -> nA,reduceSub -> nS,reduceMul -> nM,reduceBEq -> nB
open Int renaming reduceToNat -> iT,reduceAdd -> iA,reduceSub -> iS,reduceMul -> iM,reduceNeg -> iN
theorem pB {l:List UInt8}:yB (Value.string ⟨l.toArray⟩) = .one (.c (.str l)):=rfl
abbrev c79:CC:=(.seq (.reg [(oD 1 (.box 46 (tP 0))),(oD 2 (.mv (.const (.string ⟨#[]⟩))))]) (.seq (.seq (.reg [(lT 3 2 1),(oD 4 (.callf (.func 71) [(tP 3)])),(bC 5 .lss 4 0)]) (.cond (tP 5) (.seq (.reg [(fA 6 1 1),(lF 7 1 6),(oD 8 (.callf (.func 80) [(tP 7)])),(oD 9 (.bin .add (.const (.string ⟨#[45]⟩)) (tP 8))),(mV 2 9)]) .ret) .skip)) (.seq (.reg [(fA 10 1 1),(lF 11 1 10),(oD 12 (.callf (.func 80) [(tP 11)])),(mV 2 12)]) .ret)))
theorem cc79:ZA Tryz.prog [] (Tryz.f79.body.getD .skip) = PA c79:=by kernel_rfl
theorem body79:Tryz.f79.body = PA (Tryz.f79.body.getD .skip):=rfl
theorem wtext_C (a:RI) (ha:(UA a.size).length <= 10000000):YA Tryz.prog 79 [aW a] (.ret (aS (decZ a.val))):=by
 have hs:=eI a (by omega)
 have ht:=text_C a.size ha
 have hl:=dec_len (GA (XD a.size) ha)
 rw [<- rJ a] at ht hl
 have s1:(dE a.val < 0) = (a.val < 0):=iI _
 unfold decZ
 by_cases h:a.val < 0
 ·have hx:dE a.val < 0:=by rw [s1];exact h
  rw [if_pos h]
  generalize dE a.val = x at *
  refine WA (rs:=[(RV.tmp 2)]) Tryz.func79 (fun a w=>Tryz.call79 a w) body79 cc79 (by kernel_rfl) ?_
  rw [Tryz.ntmps79]
  simp only [pC,nA,nS]
  repeat (first | (with_reducible first | refine W8 ?_ | refine VA rfl ?_) | ((with_reducible refine X8 fun K hK=>?_);simp (disch:=first | omega | simp only [sB];omega) only [qB,reduceIte,reduceCtorEq,iT,nA,nS,nM,iA,iS,iM,iN,fU,UB,HB,pB];subst hK) | refine KB (hs) rfl rfl rfl ?_ | refine KB (ht) rfl rfl rfl ?_)
  exact ⟨_,rfl,rfl⟩
 ·have hx:¬ dE a.val < 0:=by rw [s1];exact h
  rw [if_neg h]
  generalize dE a.val = x at *
  refine WA (rs:=[(RV.tmp 2)]) Tryz.func79 (fun a w=>Tryz.call79 a w) body79 cc79 (by kernel_rfl) ?_
  rw [Tryz.ntmps79]
  simp only [pC,nA,nS]
  repeat (first | (with_reducible first | refine W8 ?_ | refine VA rfl ?_) | ((with_reducible refine X8 fun K hK=>?_);simp (disch:=first | omega | simp only [sB];omega) only [qB,reduceIte,reduceCtorEq,iT,nA,nS,nM,iA,iS,iM,iN,fU,UB,HB,pB];subst hK) | refine KB (hs) rfl rfl rfl ?_ | refine KB (ht) rfl rfl rfl ?_)
  exact ⟨_,rfl,rfl⟩
abbrev c78:CC:=(.seq (.reg [(oD 1 (.box 48 (tP 0))),(mB 2 TA)]) (.seq (.reg [(fA 3 0 1),(lT 4 2 3),(fA 5 2 1),(lF 6 1 5),(oD 7 (.callf (.func 45) [(tP 4),(tP 6)])),(oD 8 (.field 2 1 TA (tP 7))),(oD 9 (.callf (.func 52) [(.const (.int .u64 (1)))])),(oD 10 (.callf (.func 98) [(tP 8),(tP 9)])),(bC 11 .eql 10 0),(mV 2 11)]) .ret))
theorem cc78:ZA Tryz.prog [] (Tryz.f78.body.getD .skip) = PA c78:=by kernel_rfl
theorem body78:Tryz.f78.body = PA (Tryz.f78.body.getD .skip):=rfl
theorem rwhole_C (a:RR) (ha:vD a 9000000):YA Tryz.prog 78 [aR a] (.ret (aB (a.val.den == 1))):=by
 have hf1:=ha.1
 have hf2:=ha.2
 have hmk:=aH (TJ a) a.den (by show (UA a.size).length <= _;omega) (by omega)
 rw [aG,RD] at hmk
 change YA _ _ _ (.ret (aR (eB a.val))) at hmk
 have hof:=of_C 1 (by decide)
 have hq:=(ha.val (by decide)).2
 have hc:=uH (iC a.val.den) (iC 1) (by rw [xD];omega) (by rw [xD,len1];decide)
 rw [rowN_val,rowN_val] at hc
 have e1:eB a.val = ⟨(eB a.val).minus,(eB a.val).size,iC a.val.den⟩:=rfl
 rw [e1] at hmk
 have hb:(ID a.val.den 1 == 0) = (a.val.den == 1):=by
  have:=a.val.den_nz
  unfold ID
  rw [if_neg (by omega)]
  by_cases h:a.val.den = 1
  ·simp [h]
  ·rw [if_pos (by omega)];simp [h]
 generalize (eB a.val).minus = m at *
 generalize (eB a.val).size = z at *
 generalize iC a.val.den = d at *
 generalize iC 1 = o at *
 refine WA (rs:=[(RV.tmp 2)]) Tryz.func78 (fun a w=>Tryz.call78 a w) body78 cc78 (by kernel_rfl) ?_
 rw [Tryz.ntmps78]
 simp only [pC,nA,nS]
 repeat (first | (with_reducible first | refine W8 ?_ | refine VA rfl ?_) | ((with_reducible refine X8 fun K hK=>?_);simp (disch:=first | omega | simp only [sB];omega) only [qB,reduceIte,reduceCtorEq,iT,nA,nS,nM,iA,iS,iM,iN,fU,UB,HB,pB,hb];subst hK) | refine KB (hmk) rfl rfl rfl ?_ | refine KB (hof) rfl rfl rfl ?_ | refine KB (hc) rfl rfl rfl ?_)
 exact ⟨_,rfl,rfl⟩
abbrev c35:CC:=(.seq (.reg [(oD 1 (.box 48 (tP 0))),(oD 2 (.mv (.const (.string ⟨#[]⟩))))]) (.seq (.reg [(fA 3 0 1),(lT 4 2 3),(fA 5 2 1),(lF 6 1 5),(oD 7 (.callf (.func 45) [(tP 4),(tP 6)])),(sT 3 1 7)]) (.seq (.seq (.reg [(lT 8 3 1),(oD 9 (.callf (.func 78) [(tP 8)]))]) (.cond (tP 9) (.seq (.reg [(fA 10 0 1),(lT 11 2 10),(oD 12 (.callf (.func 79) [(tP 11)])),(mV 2 12)]) .ret) .skip)) (.seq (.reg [(fA 13 0 1),(lT 14 2 13),(oD 15 (.callf (.func 79) [(tP 14)])),(oD 16 (.bin .add (tP 15) (.const (.string ⟨#[47]⟩)))),(fA 17 2 1),(lF 18 1 17),(oD 19 (.callf (.func 80) [(tP 18)])),(bB 20 .add 16 19),(mV 2 20)]) .ret))))
theorem cc35:ZA Tryz.prog [] (Tryz.f35.body.getD .skip) = PA c35:=by kernel_rfl
theorem body35:Tryz.f35.body = PA (Tryz.f35.body.getD .skip):=rfl
theorem rtext_C (a:RR) (ha:vD a 9000000):YA Tryz.prog 35 [aR a] (.ret (aS (textQ a.val))):=by
 have hf1:=ha.1
 have hf2:=ha.2
 have hmk:=aH (TJ a) a.den (by show (UA a.size).length <= _;omega) (by omega)
 rw [aG,RD] at hmk
 change YA _ _ _ (.ret (aR (eB a.val))) at hmk
 have hq:=ha.val (by decide)
 have hw:=rwhole_C (eB a.val) (QB hq)
 rw [rawQ_val] at hw
 have h1:=hq.1
 have h2:=hq.2
 have ht:=wtext_C (MC a.val.num) (by rw [HB,xD];omega)
 rw [rawZ_val] at ht
 have hd:=text_C (iC a.val.den) (by rw [xD];omega)
 rw [rowN_val] at hd
 have l1:=decZ_len h1
 have l2:=dec_len h2
 have e1:eB a.val = ⟨(MC a.val.num).minus,(MC a.val.num).size,iC a.val.den⟩:=rfl
 rw [e1] at hmk hw
 unfold textQ
 generalize MC a.val.num = z at *
 generalize iC a.val.den = d at *
 by_cases h:a.val.den = 1
 ·rw [if_pos h]
  rw [show (a.val.den == 1) = SA from by simp [h]] at hw
  refine WA (rs:=[(RV.tmp 2)]) Tryz.func35 (fun a w=>Tryz.call35 a w) body35 cc35 (by kernel_rfl) ?_
  rw [Tryz.ntmps35]
  simp only [pC,nA,nS]
  repeat (first | (with_reducible first | refine W8 ?_ | refine VA rfl ?_) | ((with_reducible refine X8 fun K hK=>?_);simp (disch:=first | omega | simp only [sB];omega) only [qB,reduceIte,reduceCtorEq,iT,nA,nS,nM,iA,iS,iM,iN,fU,UB,HB,pB];subst hK) | refine KB (hmk) rfl rfl rfl ?_ | refine KB (hw) rfl rfl rfl ?_ | refine KB (ht) rfl rfl rfl ?_ | refine KB (hd) rfl rfl rfl ?_)
  exact ⟨_,rfl,rfl⟩
 ·rw [if_neg h]
  rw [show (a.val.den == 1) = TA from by simp [h]] at hw
  refine WA (rs:=[(RV.tmp 2)]) Tryz.func35 (fun a w=>Tryz.call35 a w) body35 cc35 (by kernel_rfl) ?_
  rw [Tryz.ntmps35]
  simp only [pC,nA,nS]
  repeat (first | (with_reducible first | refine W8 ?_ | refine VA rfl ?_) | ((with_reducible refine X8 fun K hK=>?_);simp (disch:=first | omega | simp only [sB];omega) only [qB,reduceIte,reduceCtorEq,iT,nA,nS,nM,iA,iS,iM,iN,fU,UB,HB,pB,sA];subst hK) | refine KB (hmk) rfl rfl rfl ?_ | refine KB (hw) rfl rfl rfl ?_ | refine KB (ht) rfl rfl rfl ?_ | refine KB (hd) rfl rfl rfl ?_)
  refine ⟨_,rfl,?_⟩
  exact rfl
open Go Go.Am Go.Proofs Go.RowKit Go.Off
open Nat renaming reduceAdd -> nA,reduceSub -> nS,reduceMul -> nM,reduceBEq -> nB
open Int renaming reduceToNat -> iT,reduceAdd -> iA,reduceSub -> iS,reduceMul -> iM,reduceNeg -> iN
theorem QF (a:Array UInt8):yB (Value.string ⟨a⟩) = .one (.c (.str a.toList)):=by cases a;rfl
theorem WN (x:Int):[[Cell.c (.val (.int .i64 x))]] = wB fI [x]:=rfl
theorem CQ (x:ZJ):[[Cell.c (.str x)]] = wB fW [x]:=rfl
def KO:MD:=⟨PA [[120]],PA [eB (-1)],PA [⟨[114],PA [eB 1],-1,eB 4⟩]⟩
def no4:NB:=PA [PA [0]]
theorem aw4_not:bH KO no4 = SA:=by decide +kernel
theorem aw4_right:VD KO = SA:=by decide +kernel
theorem aw4_rows:iK KO no4 = [0]:=by decide +kernel
theorem aw4_own:GH KO no4 0 = KO:=by
 have h:iF KO no4 0 1 = [⟨[114],PA [eB 1],-1,eB 4⟩]:=by
  show (if (iK KO no4).getD 0 (-1) = ((0:Nat):Int) then _ else _) = _
  rw [aw4_rows]
  rfl
 unfold GH
 show MD.mk _ _ (aC (iF KO no4 0 1)) = _
 rw [h]
 rfl
def TM:PB:=⟨PA [PA [eB 1,eB 1]],PA [eB 4],PA [eB (-1),eB 0]⟩
theorem aw4_of:fX KO = TM:=by
 have h1:ofA KO 1 = [[1,1]]:=by
  show [[(eB 1).val,((0 - -1:Int):Rat)]] = _
  rw [rawQ_val];rfl
 have h2:ofB KO 1 = [4]:=by
  show [(eB 4).val] = _
  rw [rawQ_val]
 have h3:fF KO.cost (YK KO) = [-1,0]:=by
  show [(eB (-1)).val,0] = _
  rw [rawQ_val]
 unfold fX
 show PB.mk (aC ((ofA KO 1).map aQ)) (aQ (ofB KO 1)) (aQ (fF KO.cost (YK KO))) = _
 rw [h1,h2,h3]
 rfl
theorem zS:AD TM = SA:=by decide +kernel
theorem pr4_ask:yI TM (PA [eB (-1)]) = [-1,0]:=by
 show [(eB (-1)).val,0] = _
 rw [rawQ_val]
theorem pr4_askP:WH TM (PA [eB (-1)]) = TM:=by
 unfold WH
 rw [pr4_ask]
 rfl
theorem pr4_told {r:SR} (h:ZR (GC TM) r):r.v = 1 /\ r.X = [4,0]:=by
 have a0:(GC TM).a 0 0 = 1:=rawQ_val 1
 have a1:(GC TM).a 0 1 = 1:=rawQ_val 1
 have b0:(GC TM).b 0 = 4:=rawQ_val 4
 have c0:(GC TM).c 0 = -1:=rawQ_val (-1)
 have c1:(GC TM).c 1 = 0:=rawQ_val 0
 have hrow:∀ x,wX (GC TM) x 0 = lF x 0 + lF x 1:=fun x=>by
  show OB 2 _ = _
  simp only [OB,a0,a1];grind
 have hcol:∀ y k,k < 2 -> colY (GC TM) y k = lF y 0:=fun y k hk=>by
  show OB 1 _ = _
  have:k = 0 \/ k = 1:=by omega
  rcases this with rfl | rfl
  ·simp only [OB,a0];grind
  ·simp only [OB,a1];grind
 have hyb:∀ y,ybP (GC TM) y = lF y 0 * 4:=fun y=>by
  show OB 1 _ = _
  simp only [OB,b0];grind
 have hcx:∀ x,cxP (GC TM) x = -(lF x 0):=fun x=>by
  show OB 2 _ = _
  simp only [OB,c0,c1];grind
 rcases h with ⟨h1,⟨x1,x2,x3⟩,y1,y2,y3,_⟩ | ⟨_,_,_,_,y2,y3⟩ | ⟨_,_,_,_,x2,x3,x4⟩
 ·have e1:=x3 0 (by decide)
  have e2:=x2 0 (by decide)
  have e3:=x2 1 (by decide)
  have e4:=y2 0 (by decide)
  rw [hrow,b0] at e1
  rw [hcol _ 0 (by decide),c0] at e4
  rw [hyb,hcx] at y3
  have f1:lF r.X 1 = 0:=by grind
  have f2:lF r.X 0 = 4:=by grind
  refine ⟨h1,?_⟩
  generalize r.X = X at *
  match X,x1 with
  | [a,b],_=>exact congr (congrArg List.cons (show a = 4 from f2)) (congrArg (fun z=>[z]) (show b = 0 from f1))
 ·exfalso
  have e4:=y2 0 (by decide)
  rw [hcol _ 0 (by decide)] at e4
  rw [hyb] at y3
  grind
 ·exfalso
  have e1:=x3 0 (by decide)
  have e2:=x2 0 (by decide)
  have e3:=x2 1 (by decide)
  rw [hrow] at e1
  rw [hcx] at x4
  grind
theorem pr4_fits:PFits TM 3:=by
 have q:∀ z:Int,-1000 <= z -> z <= 1000 -> vD (eB (z:Rat)) 3:=fun z h1 h2=>QB ((FG z (by omega) (by omega)).mono (by decide))
 have q1:vD (eB 1) 3:=q 1 (by decide) (by decide)
 have q4:vD (eB 4) 3:=q 4 (by decide) (by decide)
 have qm:vD (eB (-1)) 3:=q (-1) (by decide) (by decide)
 have q0:vD (eB 0) 3:=q 0 (by decide) (by decide)
 refine ⟨zS,⟨by decide,fun v hv=>?_⟩,⟨by decide,fun r hr=>?_⟩,fun r hr=>?_,by decide,by decide,by decide,by decide⟩
 ·have:v = PA [eB 1,eB 1]:=by simpa [TM,UA] using hv
  subst this
  refine ⟨by decide,fun r hr=>?_⟩
  have:r = eB 1:=by simpa [UA] using hr
  rw [this];exact q1
 ·have:r = eB 4:=by simpa [TM,UA] using hr
  rw [this];exact q4
 ·have:r = eB (-1) \/ r = eB 0:=by simpa [TM,UA] using hr
  rcases this with rfl | rfl
  ·exact qm
  ·exact q0
theorem dot2 (a b c d:Rat):aL (PA [eB a,eB b]) (PA [eB c,eB d]) = a * c + b * d:=by
 show VQ (PA [eB a,eB b]) (PA [eB c,eB d]) 2 = _
 simp only [VQ,List.range_succ,List.range_zero,qA,rA,List.foldl_cons,List.foldl_nil,dF,osl_some,List.getD_cons_zero,List.getD_cons_succ,rawQ_val]
 grind
theorem text_m4:textQ (-4) = [45,52]:=by decide +kernel
theorem text_12:textQ 12 = [49,50]:=by decide +kernel
abbrev c10:CC:=(.seq (.reg [(mB 0 TA)]) (.seq (.reg [(oD 7 (.mkrow 9 1 [(.const (.string ⟨#[120]⟩))])),(oD 8 (.mkrow 3 1 [(.const (.int .i64 (-1)))])),(oD 9 (.callf (.func 34) [(tP 8)])),(oD 10 (.mkrow 3 1 [(.const (.int .i64 (1)))])),(oD 11 (.callf (.func 34) [(tP 10)])),(oD 12 (.callf (.func 19) [(.const (.int .i64 (4)))])),(oD 13 (.build [(.string ⟨#[]⟩),(.slice QA 0 0),(.int .i64 (0)),(.bool TA),(.slice QA 0 0),(.slice QA 0 0)] [(0,(1,(.const (.string ⟨#[114]⟩)))),(1,(1,(tP 11))),(2,(1,(.const (.int .i64 (-1))))),(3,(3,(tP 12)))])),(oD 14 (.mkrow 50 6 [(tP 13)])),(oD 15 (.build [(.slice QA 0 0),(.slice QA 0 0),(.slice QA 0 0)] [(0,(1,(tP 7))),(1,(1,(tP 9))),(2,(1,(tP 14)))])),(oD 1 (.new 26 [(.slice QA 0 0),(.slice QA 0 0),(.slice QA 0 0)])),(sT 3 1 15)]) (.seq (.reg [(lT 17 3 1),(oD 18 (.mkrow 3 1 [(.const (.int .i64 (0)))])),(oD 19 (.mkrow 35 1 [(tP 18)])),(oD 20 (.build [(.slice QA 0 0)] [(0,(1,(tP 19)))])),(oD 21 (.callf (.func 11) [(tP 17),(tP 20),(.const (.int .i64 (0)))])),(mV 16 21),(eX 22 16 0),(eX 23 16 1),(oD 2 (.new 37 [(.slice QA 0 0),(.slice QA 0 0),(.slice QA 0 0),(.slice QA 0 0)])),(sT 4 2 22),(mV 3 23)]) (.seq (.regn SA [(lT 25 4 2),(oD 26 (.mkrowc 1 [(.const (.int .i64 (-1)))])),(oD 27 (.callf (.func 34) [(tP 26)])),(oD 28 (.callf (.func 17) [(tP 25),(tP 27),(.const (.int .i64 (65536)))])),(mV 24 28),(eX 29 24 0),(eX 30 24 1),(eX 31 24 2),(oD 4 (.fill 56 [(.int .i64 (0)),(.slice QA 0 0),(.bool TA),(.slice QA 0 0),(.slice QA 0 0)])),(sT 5 4 29),(mV 5 30),(mV 6 31)]) (.seq (.reg [(mV 32 3),(bC 33 .eql 32 0),(mV 34 33),(gM 35 34 SA 6),(oG 36 34 SA (.bin .eql (tP 35) (.const (.int .i64 (0))))),(pF 37 34 36),(mV 38 37),(oG 39 38 SA (.faddr 0 (tP 4))),(oG 40 38 SA (.load 1 TA (tP 39))),(oG 41 38 SA (.bin .eql (tP 40) (.const (.int .i64 (1))))),(pF 42 38 41),(mV 43 42),(oG 44 43 SA (.faddr 1 (tP 4))),(oG 45 43 SA (.load 1 TA (tP 44))),(oG 46 43 SA (.mkrow 3 1 [(.const (.int .i64 (4)))])),(oG 47 43 SA (.callf (.func 34) [(tP 46)])),(oG 48 43 SA (.callf (.func 16) [(tP 45),(tP 47)])),(pF 49 43 48),(mV 50 49),(oG 51 50 SA (.faddr 2 (tP 4))),(oG 52 50 SA (.load 3 SA (tP 51))),(oG 53 50 SA (.callf (.func 35) [(tP 52)])),(oG 54 50 SA (.bin .eql (tP 53) (.const (.string ⟨#[45,52]⟩)))),(pF 55 50 54),(mV 56 55),(oG 57 56 SA (.load 4 SA (tP 2))),(oG 58 56 SA (.mkrow 3 1 [(.const (.int .i64 (3)))])),(oG 59 56 SA (.callf (.func 34) [(tP 58)])),(oG 60 56 SA (.load 5 SA (tP 4))),(oG 61 56 SA (.callf (.func 23) [(tP 57),(tP 59),(tP 60)])),(oG 62 56 SA (.callf (.func 35) [(tP 61)])),(oG 63 56 SA (.bin .eql (tP 62) (.const (.string ⟨#[49,50]⟩)))),(pF 64 56 63),(mV 0 64)]) .ret)))))
theorem cc10:ZA Tryz.prog [] (Tryz.f10.body.getD .skip) = PA c10:=by kernel_rfl
theorem body10:Tryz.f10.body = PA (Tryz.f10.body.getD .skip):=rfl
theorem awake14_C:YA Tryz.prog 10 [] (.ret (aB SA)):=by
 have i1:=qN [-1] (by decide) (by decide)
 have i2:=qN [1] (by decide) (by decide)
 have i3:=qN [4] (by decide) (by decide)
 have i4:=qN [3] (by decide) (by decide)
 change YA _ _ _ (.ret (aV (PA [eB (-1)]))) at i1
 change YA _ _ _ (.ret (aV (PA [eB 1]))) at i2
 change YA _ _ _ (.ret (aV (PA [eB 4]))) at i3
 change YA _ _ _ (.ret (aV (PA [eB 3]))) at i4
 have hint:=KE 4 (by omega) (by omega)
 change YA _ _ _ (.ret (aR (eB 4))) at hint
 have q1:SB (1:Rat) 2:=FG 1 (by decide) (by decide)
 have qm:SB (-1:Rat) 2:=FG (-1) (by decide) (by decide)
 have q4:SB (4:Rat) 2:=FG 4 (by decide) (by decide)
 have q3:SB (3:Rat) 2:=FG 3 (by decide) (by decide)
 have qm4:SB (-4:Rat) 2:=FG (-4) (by decide) (by decide)
 have q12:SB (12:Rat) 2:=FG 12 (by decide) (by decide)
 have one:∀ a:Rat,SB a 2 -> vC (PA [eB a]) 2 2:=fun a h=>⟨Nat.le_succ _,fun r hr=>by rw [osl_some] at hr;rw [List.mem_singleton.1 hr];exact QB h⟩
 have hvr:∀ s ∈ UA KO.vars,s.length <= 1000000:=fun s hs=>by
  have:s = [120]:=by simpa [KO,UA] using hs
  subst this;decide
 have hrr:∀ r ∈ UA KO.rows,r = ⟨[114],PA [eB 1],-1,eB 4⟩:=fun r hr=>by simpa [KO,UA] using hr
 have hof:=sof_yes KO 2 2 ⟨one _ qm,fun r hr=>by rw [hrr r hr];exact ⟨one _ q1,QB q4⟩⟩ (by decide) (by decide) (by decide) hvr (fun r hr=>by rw [hrr r hr];decide) aw4_right
 rw [aw4_of] at hof
 have hpo:=pof_yes KO no4 0 2 ⟨by decide,fun s hs=>by
   have:s = PA [0]:=by simpa [no4,UA] using hs
   subst this;decide,fun s hs z hz=>by
   have:s = PA [0]:=by simpa [no4,UA] using hs
   subst this
   have:z = 0:=by simpa [UA] using hz
   subst this;decide⟩ (by decide) hvr (fun r hr=>by rw [hrr r hr];decide) (fun r hr x hx=>by rw [hrr r hr] at hx;exact (one _ q1).2 x hx) (by decide) aw4_not (by decide) TM 0 (by rw [aw4_own];exact hof)
 change YA _ _ [aMd KO,aNo no4,aI 0] (.ret (.tup [aBk TM (PA [0]),aI 0])) at hpo
 obtain ⟨r,T,ht,_,c,k1,k2⟩:=told2 TM TM 3 3 pr4_fits pr4_fits rfl
 obtain ⟨e1,e2⟩:=pr4_told ht.prov
 have hT:T <= 65536:=by
  have h:=ch_simplex 1 (by decide) 2 (by decide)
  have h2:=ht.steps
  have h3:AI (GC TM) <= 495:=h
  omega
 have hs:=ht.call 65536 (by decide) (by decide)
 rw [if_pos (by omega)] at hs
 have k4:4 ^ (UA TM.A).length * (3 + 1) = 16:=by decide
 have hfX:=ht.fx
 have hfR:=ht.fr
 rw [k4] at hfX hfR
 have hak:=ask_ok TM (PA [0]) (PA [eB (-1)]) 65536 2 2 16 (one _ qm) (by decide) (by decide) (by decide) (by decide) (by decide) (by decide) zS (by decide) (by decide) (by decide) r T hfX hfR (by rw [pr4_askP];exact ht.prov) (by rw [pr4_askP];exact hs)
 unfold offV at hak
 rw [if_pos e1,pr4_ask,e2] at hak
 have hdv:aL (aQ [-1,0]) (aQ [4,0]) = -4:=by
  show aL (PA [eB (-1),eB 0]) (PA [eB 4,eB 0]) = -4
  rw [dot2];decide +kernel
 rw [hdv] at hak
 change YA _ _ _ (.ret (.tup [aOf 1 (PA [eB 4]) (eB (-4)),aI T,aI 0])) at hak
 have s1:=vsame_C _ _ 2 2 (one _ q4) (one _ q4) (by decide) (by decide)
 rw [same_of rfl (fun k _=>rfl)] at s1
 have t1:=rtext_C (eB (-4)) ((QB qm4).mono (by decide))
 rw [rawQ_val,text_m4] at t1
 have hsh:=share_C TM (PA [0]) (PA [eB 3]) 1 (PA [eB 4]) (eB (-4)) 2 2 (one _ q3) (one _ q4) (by decide) (by decide) (by decide) (by decide)
 have hsv:wL (UA (PA [0])) (PA [eB 3]) (PA [eB 4]) (UA (PA [eB 4])).length = 12:=by
  show (if shIn [0] (PA [eB 3]) 0 then (0:Rat) + (eB 3).val * (eB 4).val else 0) = 12
  rw [if_pos (by decide),rawQ_val,rawQ_val]
  decide +kernel
 rw [hsv] at hsh
 have t2:=rtext_C (eB 12) ((QB q12).mono (by decide))
 rw [rawQ_val,text_12] at t2
 unfold TM at hpo hak hsh
 unfold KO no4 at hpo
 clear ht hs hfX hfR hof hvr hrr
 generalize eB (-1) = p1 at *
 generalize eB 0 = q0 at *
 generalize eB 1 = q1 at *
 generalize eB 3 = q3 at *
 generalize eB 4 = q4 at *
 generalize eB (-4) = p4 at *
 generalize eB 12 = q12 at *
 refine WA (rs:=[(RV.tmp 0)]) Tryz.func10 (fun a w=>Tryz.call10 a w) body10 cc10 (by kernel_rfl) ?_
 rw [Tryz.ntmps10]
 simp only [pC,nA,nS]
 repeat (first | (with_reducible first | refine W8 ?_ | refine VA rfl ?_) | ((with_reducible refine X8 (fun K hK=>?_));simp (maxSteps:=2000000) (disch:=first | omega | (simp only [sB];omega)) only [qB,reduceIte,reduceCtorEq,iT,nA,nS,nM,iA,iS,iM,iN,fU,QF,WN,CQ];subst hK) | refine zqR (i1) ?_ | refine zqR (i2) ?_ | refine KB (hint) rfl rfl rfl ?_ | (apply cJ (ids:=[0,3,6,5]) (hpo) rfl;(case hcl=>(simp only [oE,St.ev,yB,NE];(repeat (first | exact kB | (apply gB;(first | (refine CB rfl (by decide)) | (refine BB rfl (by decide) ?_;assumption) | rfl))));done));(case hf=>rfl);(case hu=>rfl);(case hh=>((simp only [YH,nB,nA,IA,if_true,if_false,reduceIte]) <;> rfl))) | refine KB (i1) rfl rfl rfl ?_ | refine KB (hak) rfl rfl rfl ?_ | (apply ML (by simp (maxSteps:=2000000) (disch:=first | omega | (simp only [sB];omega)) only [qB,reduceIte,reduceCtorEq,iT,nA,nS,nM,iA,iS,iM,iN,fU,QF,WN,CQ]) (i3) rfl;(case hcl=>(simp only [oE,St.ev,yB,NE];(repeat (first | exact kB | (apply gB;(first | (refine CB rfl (by decide)) | (refine BB rfl (by decide) ?_;assumption) | rfl))));done));(case hf=>rfl);(case hu=>(simp only [oE,St.ev,yB,NE];(repeat (first | exact RC | (apply AC;(first | (apply xC;rfl) | rfl))));done));(case hh=>((simp only [YH,nB,nA,IA,if_true,if_false,reduceIte]) <;> rfl))) | (apply TH (s1) rfl;(case hg=>simp (maxSteps:=2000000) (disch:=first | omega | (simp only [sB];omega)) only [qB,reduceIte,reduceCtorEq,iT,nA,nS,nM,iA,iS,iM,iN,fU,QF,WN,CQ]);(case hcl=>(simp only [oE,St.ev,yB,NE];(repeat (first | exact kB | (apply gB;(first | (refine CB rfl (by decide)) | (refine BB rfl (by decide) ?_;assumption) | rfl))));done));(case hu=>rfl)) | (apply TH (t1) rfl;(case hg=>simp (maxSteps:=2000000) (disch:=first | omega | (simp only [sB];omega)) only [qB,reduceIte,reduceCtorEq,iT,nA,nS,nM,iA,iS,iM,iN,fU,QF,WN,CQ]);(case hcl=>(simp only [oE,St.ev,yB,NE];(repeat (first | exact kB | (apply gB;(first | (refine CB rfl (by decide)) | (refine BB rfl (by decide) ?_;assumption) | rfl))));done));(case hu=>rfl)) | (apply ML (by simp (maxSteps:=2000000) (disch:=first | omega | (simp only [sB];omega)) only [qB,reduceIte,reduceCtorEq,iT,nA,nS,nM,iA,iS,iM,iN,fU,QF,WN,CQ]) (i4) rfl;(case hcl=>(simp only [oE,St.ev,yB,NE];(repeat (first | exact kB | (apply gB;(first | (refine CB rfl (by decide)) | (refine BB rfl (by decide) ?_;assumption) | rfl))));done));(case hf=>rfl);(case hu=>(simp only [oE,St.ev,yB,NE];(repeat (first | exact RC | (apply AC;(first | (apply xC;rfl) | rfl))));done));(case hh=>((simp only [YH,nB,nA,IA,if_true,if_false,reduceIte]) <;> rfl))) | (apply TH (hsh) rfl;(case hg=>simp (maxSteps:=2000000) (disch:=first | omega | (simp only [sB];omega)) only [qB,reduceIte,reduceCtorEq,iT,nA,nS,nM,iA,iS,iM,iN,fU,QF,WN,CQ]);(case hcl=>(simp only [oE,St.ev,yB,NE];(repeat (first | exact kB | (apply gB;(first | (refine CB rfl (by decide)) | (refine BB rfl (by decide) ?_;assumption) | rfl))));done));(case hu=>rfl)) | (apply TH (t2) rfl;(case hg=>simp (maxSteps:=2000000) (disch:=first | omega | (simp only [sB];omega)) only [qB,reduceIte,reduceCtorEq,iT,nA,nS,nM,iA,iS,iM,iN,fU,QF,WN,CQ]);(case hcl=>(simp only [oE,St.ev,yB,NE];(repeat (first | exact kB | (apply gB;(first | (refine CB rfl (by decide)) | (refine BB rfl (by decide) ?_;assumption) | rfl))));done));(case hu=>rfl)))
 exact ⟨_,rfl,rfl⟩
end Go.Proofs.YtncgbjhojbnecaaGreat
namespace Go.Proofs.YtncgbjhojbnecaaGreat
open Go Go.Am Go.Proofs Go.Off
open Nat renaming reduceAdd -> nA,reduceSub -> nS,reduceMul -> nM,reduceBEq -> nB
open Int renaming reduceToNat -> iT,reduceAdd -> iA,reduceSub -> iS,reduceMul -> iM,reduceNeg -> iN
end Go.Proofs.YtncgbjhojbnecaaGreat
