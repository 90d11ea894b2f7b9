/- The law PriceBest: the walk. -/
import Derived.Test.YtncgbjhojbnecaaGreatU7
import Derived.Test.YtncgbjhojbnecaaGreatUV
set_option linter.unusedSimpArgs false
set_option linter.unusedVariables false
set_option linter.unnecessarySimpa false
set_option maxRecDepth 100000
set_option maxHeartbeats 4000000
open Bool renaming true -> SA, and_eq_true -> JA, false -> TA
open List renaming mem_range -> zA
open Option renaming none -> QA, some -> PA
open Go.Am.Way renaming imp -> W8
open Go.Am.WayR renaming imp -> X8
namespace Go.Proofs.YtncgbjhojbnecaaGreat
open Go Go.Am Go.Proofs Go.RowKit Go.Off
open Nat renaming reduceAdd -> nA,reduceSub -> nS,reduceMul -> nM,reduceBEq -> nB
open Int renaming reduceToNat -> iT,reduceAdd -> iA,reduceSub -> iS,reduceMul -> iM,reduceNeg -> iN
theorem pfits14 {p:PB} (fP:pR p 14 3) (hm:(UA p.A).length <= 6) (hr:AD p = SA):PFits p 3:=by
 obtain ⟨f1,f2,f3⟩:=fP
 have f5:∀ m,m <= 6 -> 4 ^ m * (3 + 1) <= 4000000 /\ m * (4 ^ m * (3 + 1) + 3 + 1) <= 8989000:=by decide
 exact ⟨hr,⟨by have:=f1.1;omega,fun v hv=>⟨by have:=(f1.2 v hv).1;omega,(f1.2 v hv).2⟩⟩,⟨by have:=f2.1;omega,f2.2⟩,fun r hr=>f3.2 r hr,by decide,by decide,(f5 _ hm).1,(f5 _ hm).2⟩
theorem askC_at (p:PB) (c:VV) (k:Nat):jE (FB (yI p c)) k = jE c k:=by
 rw [rowV_get]
 exact qAt_wide c _ k
theorem ask_pf {p q:PB} {c:VV} (h2:(UA c).length <= (UA p.C).length) (hA:q.A = p.A) (hB:q.B = p.B) (hn:(UA q.C).length = (UA p.C).length) (h:∀ k,jE q.C k = jE c k):GC (WH p c) = GC q:=by
 unfold GC
 rw [WY h2,hA,hB,hn]
 have:(fun k=>jE (WH p c).C k) = fun k=>jE q.C k:=by
  funext k
  rw [h]
  exact askC_at p c k
 rw [this]
 rfl
theorem cx_dot14 {p:PB} {x:VV} (hx:(UA x).length = (UA p.C).length):aL p.C x = cxP (GC p) (LC x):=by
 rw [dot_sum]
 unfold dP
 rw [hx,Nat.min_self]
 refine dB (fun i _=>?_)
 show _ = jE p.C i * (LC x).getD i 0
 rw [LO]
theorem does_feas14 {p:PB} {x:VV} (h:doesB p x = SA):R8 (GC p) (LC x):=by
 unfold doesB at h
 simp only [JA,Bool.not_eq_true',decide_eq_true_eq] at h
 obtain ⟨hr,hl,h1,h2⟩:=h
 refine ⟨by rw [YL];exact hl,fun k hk=>?_,fun i hi=>?_⟩
 ·have hk':k < (UA p.C).length:=hk
  have:=xG h1 (show k < (UA x).length by omega)
  have e:pAt UY x k = decide (jE x k < 0):=rfl
  rw [e,decide_eq_false_iff_not,Rat.not_lt] at this
  show 0 <= (LC x).getD k 0
  rw [LO]
  exact this
 ·have hi':i < (UA p.A).length:=hi
  obtain ⟨_,_,_,l4⟩:=qG hr
  unfold N8 at h2
  have:=List.all_eq_true.1 h2 i (zA.2 hi')
  rw [decide_eq_true_eq,dot_sum] at this
  unfold dP at this
  rw [mF hi',l4 i hi',hl,Nat.min_self,<- mF hi'] at this
  refine Eq.trans (dB (fun k _=>?_)) this
  show jE (RJ p.A i) k * (LC x).getD k 0 = _
  rw [LO]
abbrev c7:CC:=(.seq (.reg [(oD 4 (.box 26 (tP 0))),(oD 5 (.box 29 (tP 1))),(mB 8 TA)]) (.seq (.seq (.reg [(lT 14 3 4),(lT 15 1 5),(oD 16 (.callf (.func 9) [(tP 14),(tP 15)])),(uN 17 16),(mV 18 17),(gM 19 18 TA 3),(oG 20 18 TA (.callf (.func 18) [(tP 19)])),(oG 21 18 TA (.un .not (tP 20))),(pT 22 18 21)]) (.cond (tP 22) (.seq (.reg [(oD 23 (.callf (.func 10) [])),(mV 8 23)]) .ret) .skip)) (.seq (.reg [(lT 25 3 4),(lT 26 1 5),(mV 27 2),(oD 28 (.callf (.func 11) [(tP 25),(tP 26),(tP 27)])),(mV 24 28),(eX 29 24 0),(eX 30 24 1),(oD 9 (.new 37 [(.slice QA 0 0),(.slice QA 0 0),(.slice QA 0 0),(.slice QA 0 0)])),(sT 4 9 29),(mV 10 30)]) (.seq (.seq (.reg [(mV 31 10),(bC 32 .neq 31 0),(mV 33 32),(oG 34 33 TA (.faddr 0 (tP 9))),(oG 35 33 TA (.load 3 SA (tP 34))),(gM 36 33 TA 3),(oG 37 33 TA (.callf (.func 30) [(tP 35),(tP 36)])),(oG 38 33 TA (.un .not (tP 37))),(pT 39 33 38)]) (.cond (tP 39) (.seq (.reg [(oD 40 (.callf (.func 10) [])),(mV 8 40)]) .ret) .skip)) (.seq (.regn SA [(lT 42 4 9),(fA 43 1 4),(lF 44 1 43),(fA 45 3 9),(lF 46 1 45),(oD 47 (.callf (.func 13) [(tP 44),(tP 46)])),(oD 48 (.callf (.func 17) [(tP 42),(tP 47),(.const (.int .i64 (65536)))])),(mV 41 48),(eX 49 41 0),(eX 50 41 1),(eX 51 41 2),(oD 11 (.fill 56 [(.int .i64 (0)),(.slice QA 0 0),(.bool TA),(.slice QA 0 0),(.slice QA 0 0)])),(sT 5 11 49),(mV 12 50),(mV 13 51)]) (.seq (.seq (.reg [(mV 52 13),(bC 53 .neq 52 0),(mV 54 53),(oG 55 54 TA (.faddr 0 (tP 11))),(oG 56 54 TA (.load 1 TA (tP 55))),(oG 57 54 TA (.bin .eql (tP 56) (.const (.int .i64 (0))))),(pT 58 54 57)]) (.cond (tP 58) (.seq (.reg [(mB 8 TA)]) .ret) .skip)) (.seq (.reg [(fA 59 0 11),(lF 60 1 59),(bC 61 .neq 60 1),(mV 62 61),(oG 63 62 TA (.faddr 2 (tP 11))),(oG 64 62 TA (.load 3 SA (tP 63))),(oG 65 62 TA (.faddr 0 (tP 9))),(oG 66 62 TA (.faddr 2 (tP 65))),(oG 67 62 TA (.load 1 TA (tP 66))),(gM 68 62 TA 3),(oG 69 62 TA (.callf (.func 29) [(tP 67),(tP 68)])),(oG 70 62 TA (.callf (.func 28) [(tP 64),(tP 69)])),(oG 71 62 TA (.bin .leq (tP 70) (.const (.int .i64 (0))))),(pT 72 62 71),(mV 73 72),(oG 74 73 SA (.callf (.func 10) [])),(pF 75 73 74),(mV 8 75)]) .ret)))))))
theorem cc7:ZA Tryz.prog [] (Tryz.f7.body.getD .skip) = PA c7:=by kernel_rfl
theorem body7:Tryz.f7.body = PA (Tryz.f7.body.getD .skip):=rfl
theorem priceBest_C (m:MD) (n:NB) (b:Int) (x:VV) (hi:∀ s ∈ UA n,∀ z ∈ UA s,-9223372036854775808 <= z /\ z <= 9223372036854775807) (hl:(UA n).length <= 9223372036854775807):YA Tryz.prog 7 [DU m,XY n,aI b,aV x] (.ret (aB SA)):=by
 have haw:=jT
 have hfm:=few14_C m n hl
 have hfx:=bO x
 cases c1:tW m n with
 | false =>
  rw [c1] at hfm
  refine WA (rs:=[(RV.tmp 8)]) Tryz.func7 (fun a w=>Tryz.call7 a w) body7 cc7 (by kernel_rfl) ?_
  rw [Tryz.ntmps7]
  simp only [pC,nA,nS]
  repeat (first | (with_reducible first | refine W8 ?_ | refine VA rfl ?_) | ((with_reducible refine X8 fun K hK=>?_);simp (disch:=first | omega | simp only [sB];omega) only [qB,reduceIte,reduceCtorEq,iT,nA,nS,nM,iA,iS,iM,iN,fU];subst hK) | refine KB (hfm) rfl rfl rfl ?_ | refine KB (haw) rfl rfl rfl ?_)
  exact ⟨_,rfl,rfl⟩
 | true =>
 rw [c1] at hfm
 cases c2:YJ x with
 | false =>
  rw [c2] at hfx
  refine WA (rs:=[(RV.tmp 8)]) Tryz.func7 (fun a w=>Tryz.call7 a w) body7 cc7 (by kernel_rfl) ?_
  rw [Tryz.ntmps7]
  simp only [pC,nA,nS]
  repeat (first | (with_reducible first | refine W8 ?_ | refine VA rfl ?_) | ((with_reducible refine X8 fun K hK=>?_);simp (disch:=first | omega | simp only [sB];omega) only [qB,reduceIte,reduceCtorEq,iT,nA,nS,nM,iA,iS,iM,iN,fU];subst hK) | refine KB (hfm) rfl rfl rfl ?_ | refine UJ (hfx) ?_ | refine KB (haw) rfl rfl rfl ?_)
  exact ⟨_,rfl,rfl⟩
 | true =>
 rw [c2] at hfx
 have hx8:=TI c2
 obtain ⟨hn,hl10,hs10,f8⟩:=lY c1 hi
 have fm:=J6 f8
 by_cases hyes:bH m n = SA /\ 0 <= b /\ b < (UA n).length
 case neg =>
  have hof:=pof_no m n b hn fm.names fm.rnames (by
   cases hb:bH m n with
   | false=>exact .inl rfl
   | true =>
    rw [hb] at hyes
    refine .inr ?_
    by_cases h0:b < 0
    ·exact .inl h0
    ·exact .inr (Int.not_lt.1 (fun h=>hyes ⟨rfl,by omega,h⟩)))
  refine WA (rs:=[(RV.tmp 8)]) Tryz.func7 (fun a w=>Tryz.call7 a w) body7 cc7 (by kernel_rfl) ?_
  rw [Tryz.ntmps7]
  simp only [pC,nA,nS]
  repeat (first | (with_reducible first | refine W8 ?_ | refine VA rfl ?_) | ((with_reducible refine X8 fun K hK=>?_);simp (disch:=first | omega | simp only [sB];omega) only [qB,reduceIte,reduceCtorEq,iT,nA,nS,nM,iA,iS,iM,iN,fU];subst hK) | refine KB (hfm) rfl rfl rfl ?_ | refine UJ (hfx) ?_ | refine KB (hof) rfl rfl rfl ?_ | refine KB (haw) rfl rfl rfl ?_)
  exact ⟨_,rfl,rfl⟩
 obtain ⟨hb,h0,h1⟩:=hyes
 obtain ⟨b,rfl⟩:∃ k:Nat,b = (k:Int):=⟨b.toNat,by omega⟩
 obtain ⟨hof,rt,fM,hvl,fP,hP6,hPr,hlC,hin⟩:=blk14 hn fm hb (by omega:b < (UA n).length)
 have hx14:vC x 14 3:=⟨by have:=hx8.1;omega,hx8.2⟩
 have hdo:=does_C (fX (GH m n b)) x 14 3 fP hx14 (by decide) (by decide) (by decide)
 cases c3:doesB (fX (GH m n b)) x with
 | false =>
  rw [c3] at hdo
  generalize fX (GH m n b) = p at *
  generalize UD n b = vs at *
  refine WA (rs:=[(RV.tmp 8)]) Tryz.func7 (fun a w=>Tryz.call7 a w) body7 cc7 (by kernel_rfl) ?_
  rw [Tryz.ntmps7]
  simp only [pC,nA,nS]
  repeat (first | (with_reducible first | refine W8 ?_ | refine VA rfl ?_) | ((with_reducible refine X8 fun K hK=>?_);simp (disch:=first | omega | simp only [sB];omega) only [qB,reduceIte,reduceCtorEq,iT,nA,nS,nM,iA,iS,iM,iN,fU];subst hK) | refine KB (hfm) rfl rfl rfl ?_ | refine UJ (hfx) ?_ | refine KB (hof) rfl rfl rfl ?_ | refine UJ (hdo) ?_ | refine KB (haw) rfl rfl rfl ?_)
  exact ⟨_,rfl,rfl⟩
 | true =>
 rw [c3] at hdo
 have hfe:=does_feas14 c3
 have hxl:(UA x).length = (UA (fX (GH m n b)).C).length:=by rw [<- YL];exact hfe.1
 have hbl:(UA (UD n b)).length <= 8:=by have:=fM.vars;omega
 have rtm:=rt_of (by unfold bH at hb;simp only [JA] at hb;exact hb.2.2)
 have hc8:=fm.fits.1.1
 have hat:=o8 m.cost (UD n b) (by omega) (by omega)
 have hcf:=m8 (p:=UA (UD n b)) (n:=14) fm.fits.1 (by decide) (by omega)
 have hcl:=V0 m.cost (UA (UD n b))
 have hCC:∀ k,jE (fX (GH m n b)).C k = jE (aC (mT m.cost (UA (UD n b)))) k:=fun k=>by
  rw [ofP_C,atQ_pick (by rw [rtm.cost];exact hin)];rfl
 generalize aC (mT m.cost (UA (UD n b))) = c at *
 generalize fX (GH m n b) = p at *
 have hpf:=ask_pf (p:=p) (q:=p) (c:=c) (by omega) rfl rfl rfl hCC
 obtain ⟨r,T,ha,ht⟩:=asked p p (UD n b) c fP hP6 hPr hcf hcl (by omega) 3 (pfits14 fP hP6 hPr) hpf
 have hT:=ha.steps
 have q1:=ha.yes 65536 (by omega) (by omega)
 have hpv:=ht.prov
 have hd:=dot_C p.C x 14 3 fP.2.2 hx14 (by decide) (by decide) (by decide)
 have hdf:=T8 fP.2.2 hx14 (by decide)
 have hv2:r.v ≠ 2:=fun h=>prov_no hpv h hfe
 have hle:r.v = 1 -> aL (FB (yI p c)) (FB r.X) <= aL p.C x:=fun h=>by
  have h1:=prov_le hpv h hfe
  have hXl:(UA (FB r.X)).length = (UA (WH p c).C).length:=by
   rw [nD,WY (by omega)]
   exact (u2 hpv hv2).1
  have e1:aL (FB (yI p c)) (FB r.X) = cxP (GC (WH p c)) (LC (FB r.X)):=cx_dot14 (p:=WH p c) hXl
  rw [e1,dS,hpf,cx_dot14 hxl]
  exact h1
 have hdx:r.v = 1 -> SB (aL (FB (yI p c)) (FB r.X)) (14 * (3 + 16384 + 1) + 1):=fun h=>by
  have hal:=XW (p:=p) (c:=c) (by omega)
  exact NS (n:=14) (nE (by have:=fP.2.2.1;omega) (B3 hcf (by decide))) (nE (by rw [show r.X.length = (UA p.C).length from (u2 hpv hv2).1];exact fP.2.2.1) ha.told.fx) (by decide) (by decide)
 unfold I2 at q1
 clear ha ht
 generalize UD n b = vs at *
 rcases prov_v hpv with hv | hv | hv
 ·rw [if_pos hv] at q1
  have hle:=hle hv
  have hdx:=hdx hv
  have hcm:=BL (eB (aL (FB (yI p c)) (FB r.X))) (eB (aL p.C x)) ((QB hdx).mono (by omega)) ((QB hdf).mono (by omega))
  rw [rawQ_val,rawQ_val] at hcm
  have hz:LM (aL (FB (yI p c)) (FB r.X)) (aL p.C x) <= 0:=Int.not_lt.1 (fun e=>absurd ((r7 _ _).1 e) (Rat.not_lt.2 hle))
  generalize LM (aL (FB (yI p c)) (FB r.X)) (aL p.C x) = z at *
  generalize aL (FB (yI p c)) (FB r.X) = dx at *
  generalize aL p.C x = dy at *
  generalize nW (UA c).length (FB r.X) = X at *
  clear hpv hfe
  refine WA (rs:=[(RV.tmp 8)]) Tryz.func7 (fun a w=>Tryz.call7 a w) body7 cc7 (by kernel_rfl) ?_
  rw [Tryz.ntmps7]
  simp only [pC,nA,nS]
  repeat (first | (with_reducible first | refine W8 ?_ | refine VA rfl ?_) | ((with_reducible refine X8 fun K hK=>?_);simp (disch:=first | omega | simp only [sB];omega) only [qB,reduceIte,reduceCtorEq,iT,nA,nS,nM,iA,iS,iM,iN,fU,hz];subst hK) | refine KB (hfm) rfl rfl rfl ?_ | refine UJ (hfx) ?_ | refine KB (hof) rfl rfl rfl ?_ | refine UJ (hdo) ?_ | refine KB (hat) rfl rfl rfl ?_ | refine KB (q1) rfl rfl rfl ?_ | refine UJ (hd) ?_ | refine UJ (hcm) ?_ | refine KB (haw) rfl rfl rfl ?_)
  exact ⟨_,rfl,rfl⟩
 ·exact absurd hv hv2
 ·rw [if_neg (by omega),if_pos hv] at q1
  generalize aL (FB (yI p c)) (FB r.Ray) = dx at *
  generalize nW (UA c).length (FB r.Ray) = X at *
  clear hpv hfe hle hdx
  refine WA (rs:=[(RV.tmp 8)]) Tryz.func7 (fun a w=>Tryz.call7 a w) body7 cc7 (by kernel_rfl) ?_
  rw [Tryz.ntmps7]
  simp only [pC,nA,nS]
  repeat (first | (with_reducible first | refine W8 ?_ | refine VA rfl ?_) | ((with_reducible refine X8 fun K hK=>?_);simp (disch:=first | omega | simp only [sB];omega) only [qB,reduceIte,reduceCtorEq,iT,nA,nS,nM,iA,iS,iM,iN,fU];subst hK) | refine KB (hfm) rfl rfl rfl ?_ | refine UJ (hfx) ?_ | refine KB (hof) rfl rfl rfl ?_ | refine UJ (hdo) ?_ | refine KB (hat) rfl rfl rfl ?_ | refine KB (q1) rfl rfl rfl ?_ | refine KB (haw) rfl rfl rfl ?_)
  exact ⟨_,rfl,rfl⟩
end Go.Proofs.YtncgbjhojbnecaaGreat
