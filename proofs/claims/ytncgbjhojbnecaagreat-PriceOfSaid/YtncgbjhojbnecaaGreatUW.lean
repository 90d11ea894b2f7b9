/- The law PriceOf: the walk. -/
import Derived.Test.YtncgbjhojbnecaaGreatUV
set_option linter.unusedSimpArgs false
set_option linter.unusedVariables false
set_option linter.unnecessarySimpa false
set_option maxRecDepth 100000
set_option maxHeartbeats 4000000
open Bool renaming false -> TA, true -> SA, and_eq_true -> JA, or_true -> KA, not_false -> LA, false_eq_true -> IA
open Option renaming none -> QA, some -> PA
open Go.Am.Way renaming imp -> W8
open Go.Am.WayR renaming imp -> X8
open List renaming length_map -> eA, cons_append -> rA, nil_append -> qA, set_cons_succ -> lA, set_cons_zero -> mA, getElem_mem -> gA, getD_eq_getElem?_getD -> bA, getElem?_eq_getElem -> aA, isEmpty_cons -> kA
open Nat renaming zero_le -> FA
namespace Go.Proofs.YtncgbjhojbnecaaGreat
open Go Go.Am Go.Proofs Go.RowKit Go.Off
open Nat renaming reduceAdd -> nA,reduceSub -> nS,reduceMul -> nM,reduceBEq -> nB
open Int renaming reduceToNat -> iT,reduceAdd -> iA,reduceSub -> iS,reduceMul -> iM,reduceNeg -> iN
abbrev c3_k1:CC:=(.seq (.reg [(oD 229 (.callf (.func 10) [])),(mV 6 229)]) .ret)
abbrev c3_b1:CC:=(.seq (.reg [(bB 213 .lss 212 211)]) (.seq (.cond (tP 213) .skip (.exit 6)) (.seq (.block 7 (.seq (.reg [(mV 214 212),(mV 17 214)]) (.seq (.reg [(fA 215 0 7),(fA 216 0 215),(lF 217 1 216),(mV 218 17),(xA 219 1 217 218),(lF 220 1 219),(fA 221 0 14),(lF 222 1 221),(mV 223 17),(xA 224 1 222 223),(lF 225 1 224),(oD 226 (.callf (.func 16) [(tP 220),(tP 225)])),(uN 227 226)]) (.cond (tP 227) (.seq (.reg [(mB 6 TA)]) .ret) .skip)))) (.reg [(bC 228 .add 212 1),(mV 212 228)]))))
abbrev c3_k2:CC:=(.seq (.seq (.reg [(fA 208 0 7),(fA 209 0 208),(lF 210 1 209),(nL 211 210),(mI 212 0)]) (.block 6 (.loop c3_b1))) c3_k1)
abbrev c3_b2:CC:=(.seq (.reg [(bB 191 .lss 190 189)]) (.seq (.cond (tP 191) .skip (.exit 4)) (.seq (.block 5 (.seq (.reg [(mV 192 190),(mV 16 192)]) (.seq (.reg [(fA 193 3 7),(lF 194 1 193),(mV 195 16),(xA 196 1 194 195),(lF 197 1 196),(fA 198 0 4),(lF 199 1 198),(mV 200 2),(xA 201 1 199 200),(lF 202 1 201),(mV 203 16),(xA 204 1 202 203),(lF 205 1 204),(bB 206 .neq 197 205)]) (.cond (tP 206) (.seq (.reg [(mB 6 TA)]) .ret) .skip)))) (.reg [(bC 207 .add 190 1),(mV 190 207)]))))
abbrev c3_k3:CC:=(.seq (.reg [(lT 141 3 9),(oD 142 (.callf (.func 15) [(tP 141)])),(mV 140 142),(eX 143 140 0),(eX 144 140 1),(oD 14 (.new 34 [(.slice QA 0 0),(.slice QA 0 0),(.slice QA 0 0)])),(sT 3 14 143),(mV 15 144)]) (.seq (.seq (.reg [(mV 145 8),(bC 146 .neq 145 0),(mV 147 146),(oG 148 147 TA (.faddr 3 (tP 7))),(oG 149 147 TA (.load 1 TA (tP 148))),(oG 150 147 TA (.len TA (tP 149))),(oG 151 147 TA (.faddr 0 (tP 4))),(oG 152 147 TA (.load 1 TA (tP 151))),(gM 153 147 TA 2),(oG 154 147 TA (.iaddr 1 QA (tP 152) (tP 153))),(oG 155 147 TA (.load 1 TA (tP 154))),(oG 156 147 TA (.len TA (tP 155))),(oG 157 147 TA (.bin .neq (tP 150) (tP 156))),(pT 158 147 157),(mV 159 158),(oG 160 159 TA (.faddr 0 (tP 7))),(oG 161 159 TA (.faddr 0 (tP 160))),(oG 162 159 TA (.load 1 TA (tP 161))),(oG 163 159 TA (.len TA (tP 162))),(oG 164 159 TA (.faddr 0 (tP 14))),(oG 165 159 TA (.load 1 TA (tP 164))),(oG 166 159 TA (.len TA (tP 165))),(oG 167 159 TA (.bin .neq (tP 163) (tP 166))),(pT 168 159 167),(mV 169 168),(oG 170 169 TA (.faddr 0 (tP 7))),(oG 171 169 TA (.faddr 1 (tP 170))),(oG 172 169 TA (.load 1 TA (tP 171))),(oG 173 169 TA (.faddr 1 (tP 14))),(oG 174 169 TA (.load 1 TA (tP 173))),(oG 175 169 TA (.callf (.func 16) [(tP 172),(tP 174)])),(oG 176 169 TA (.un .not (tP 175))),(pT 177 169 176),(mV 178 177),(oG 179 178 TA (.faddr 0 (tP 7))),(oG 180 178 TA (.faddr 2 (tP 179))),(oG 181 178 TA (.load 1 TA (tP 180))),(oG 182 178 TA (.faddr 2 (tP 14))),(oG 183 178 TA (.load 1 TA (tP 182))),(oG 184 178 TA (.callf (.func 16) [(tP 181),(tP 183)])),(oG 185 178 TA (.un .not (tP 184))),(pT 186 178 185)]) (.cond (tP 186) (.seq (.reg [(mB 6 TA)]) .ret) .skip)) (.seq (.seq (.reg [(fA 187 3 7),(lF 188 1 187),(nL 189 188),(mI 190 0)]) (.block 4 (.loop c3_b2))) c3_k2)))
abbrev c3_b3:CC:=(.seq (.reg [(bB 96 .lss 95 94)]) (.seq (.cond (tP 96) .skip (.exit 2)) (.seq (.block 3 (.seq (.reg [(mV 97 95),(xA 98 1 93 95),(lF 99 1 98),(mV 12 97),(mV 13 99)]) (.seq (.reg [(mV 100 13),(mV 101 2),(bB 102 .eql 100 101)]) (.cond (tP 102) (.reg [(fA 103 2 9),(lF 104 1 103),(fA 105 2 3),(lF 106 1 105),(mV 107 12),(xA 108 6 106 107),(fA 109 0 108),(lF 110 1 109),(fA 111 2 3),(lF 112 1 111),(mV 113 12),(xA 114 6 112 113),(fA 115 1 114),(lF 116 1 115),(fA 117 0 4),(lF 118 1 117),(mV 119 2),(xA 120 1 118 119),(lF 121 1 120),(oD 122 (.callf (.func 13) [(tP 116),(tP 121)])),(fA 123 2 3),(lF 124 1 123),(mV 125 12),(xA 126 6 124 125),(fA 127 2 126),(lF 128 1 127),(fA 129 2 3),(lF 130 1 129),(mV 131 12),(xA 132 6 130 131),(fA 133 3 132),(lT 134 3 133),(oD 135 (.build [(.string ⟨#[]⟩),(.slice QA 0 0),(.int .i64 (0)),(.bool TA),(.slice QA 0 0),(.slice QA 0 0)] [(0,(1,(tP 110))),(1,(1,(tP 122))),(2,(1,(tP 128))),(3,(3,(tP 134)))])),(oD 136 (.mkrow 50 6 [(tP 135)])),(oD 137 (.append 50 6 104 (tP 104) (tP 136))),(fA 138 2 9),(sT 1 138 137)]) .skip)))) (.reg [(bC 139 .add 95 1),(mV 95 139)]))))
abbrev c3_k4:CC:=(.seq (.seq (.reg [(lT 91 3 3),(lT 92 1 4),(oD 93 (.callf (.func 14) [(tP 91),(tP 92)])),(nL 94 93),(mI 95 0)]) (.block 2 (.loop c3_b3))) c3_k3)
abbrev c3_b4:CC:=(.seq (.reg [(bB 77 .lss 76 75)]) (.seq (.cond (tP 77) .skip (.exit 0)) (.seq (.block 1 (.seq (.reg [(xA 78 1 74 76),(lF 79 1 78),(mV 11 79)]) (.reg [(fA 80 0 9),(lF 81 1 80),(fA 82 0 3),(lF 83 1 82),(mV 84 11),(xA 85 1 83 84),(lF 86 1 85),(oD 87 (.mkrow 9 1 [(tP 86)])),(oD 88 (.append 9 1 16 (tP 81) (tP 87))),(fA 89 0 9),(sT 1 89 88)]))) (.reg [(bC 90 .add 76 1),(mV 76 90)]))))
abbrev c3:CC:=(.seq (.reg [(oD 3 (.box 26 (tP 0))),(oD 4 (.box 29 (tP 1))),(mB 6 TA)]) (.seq (.seq (.reg [(lT 18 3 3),(lT 19 1 4),(oD 20 (.callf (.func 9) [(tP 18),(tP 19)])),(uN 21 20)]) (.cond (tP 21) (.seq (.reg [(oD 22 (.callf (.func 10) [])),(mV 6 22)]) .ret) .skip)) (.seq (.reg [(lT 24 3 3),(lT 25 1 4),(mV 26 2),(oD 27 (.callf (.func 11) [(tP 24),(tP 25),(tP 26)])),(mV 23 27),(eX 28 23 0),(eX 29 23 1),(oD 7 (.new 37 [(.slice QA 0 0),(.slice QA 0 0),(.slice QA 0 0),(.slice QA 0 0)])),(sT 4 7 28),(mV 8 29)]) (.seq (.seq (.reg [(lT 30 3 3),(lT 31 1 4),(oD 32 (.callf (.func 12) [(tP 30),(tP 31)])),(uN 33 32),(mV 34 33),(gM 35 34 TA 2),(oG 36 34 TA (.bin .lss (tP 35) (.const (.int .i64 (0))))),(pT 37 34 36),(mV 38 37),(gM 39 38 TA 2),(oG 40 38 TA (.faddr 0 (tP 4))),(oG 41 38 TA (.load 1 TA (tP 40))),(oG 42 38 TA (.len TA (tP 41))),(oG 43 38 TA (.bin .geq (tP 39) (tP 42))),(pT 44 38 43)]) (.cond (tP 44) (.seq (.reg [(fA 45 3 7),(lF 46 1 45),(nL 47 46),(fA 48 0 7),(fA 49 2 48),(lF 50 1 49),(nL 51 50),(bB 52 .add 47 51),(bC 53 .eql 52 0),(mV 54 53),(gM 55 54 SA 8),(oG 56 54 SA (.bin .eql (tP 55) (.const (.int .i64 (1))))),(pF 57 54 56),(mV 58 57),(oG 59 58 SA (.callf (.func 10) [])),(pF 60 58 59),(mV 6 60)]) .ret) .skip)) (.seq (.regn SA [(fA 61 1 3),(lF 62 1 61),(fA 63 0 4),(lF 64 1 63),(mV 65 2),(xA 66 1 64 65),(lF 67 1 66),(oD 68 (.callf (.func 13) [(tP 62),(tP 67)])),(oD 69 (.build [(.slice QA 0 0),(.slice QA 0 0),(.slice QA 0 0)] [(1,(1,(tP 68)))])),(oD 9 (.fill 26 [(.slice QA 0 0),(.slice QA 0 0),(.slice QA 0 0)])),(sT 3 9 69)]) (.seq (.seq (.reg [(fA 70 0 4),(lF 71 1 70),(mV 72 2),(xA 73 1 71 72),(lF 74 1 73),(nL 75 74),(mI 76 0)]) (.block 0 (.loop c3_b4))) c3_k4))))))
theorem cc3:ZA Tryz.prog [] (Tryz.f3.body.getD .skip) = PA c3:=by kernel_rfl
theorem body3:Tryz.f3.body = PA (Tryz.f3.body.getD .skip):=rfl
theorem priceOf_C (m:MD) (n:NB) (b:Int) (hi:∀ s ∈ UA n,∀ z ∈ UA s,-9223372036854775808 <= z /\ z <= 9223372036854775807) (hl:(UA n).length <= 9223372036854775807):YA Tryz.prog 3 [DU m,XY n,aI b] (.ret (aB SA)):=by
 have haw:=jT
 have hfm:=few14_C m n hl
 cases c1:tW m n with
 | false =>
  rw [c1] at hfm
  refine WA (rs:=[(RV.tmp 6)]) Tryz.func3 (fun a w=>Tryz.call3 a w) body3 cc3 (by kernel_rfl) ?_
  rw [Tryz.ntmps3]
  simp only [pC,nA,nS]
  repeat (first | (with_reducible first | refine W8 ?_ | refine VA rfl ?_) | ((with_reducible refine X8 fun K hK=>?_);simp (disch:=first | omega | simp only [sB];omega) only [qB,reduceIte,reduceCtorEq,iT,nA,nS,nM,iA,iS,iM,iN,fU];subst hK) | refine KB (hfm) rfl rfl rfl ?_ | refine KB (haw) rfl rfl rfl ?_)
  exact ⟨_,rfl,rfl⟩
 | true =>
 rw [c1] at hfm
 obtain ⟨hn,hl10,hs10,f8⟩:=lY c1 hi
 have fm:=J6 f8
 have hri:=jK m n hn fm.names fm.rnames
 cases hb:bH m n with
 | false =>
  have hof:=pof_no m n b hn fm.names fm.rnames (.inl hb)
  rw [hb] at hri
  refine WA (rs:=[(RV.tmp 6)]) Tryz.func3 (fun a w=>Tryz.call3 a w) body3 cc3 (by kernel_rfl) ?_
  rw [Tryz.ntmps3]
  simp only [pC,nA,nS]
  repeat (first | (with_reducible first | refine W8 ?_ | refine VA rfl ?_) | ((with_reducible refine X8 fun K hK=>?_);simp (disch:=first | omega | simp only [sB];omega) only [qB,reduceIte,reduceCtorEq,iT,nA,nS,nM,iA,iS,iM,iN,fU];subst hK) | refine KB (hfm) rfl rfl rfl ?_ | refine KB (hof) rfl rfl rfl ?_ | refine KB (hri) rfl rfl rfl ?_ | refine KB (haw) rfl rfl rfl ?_)
  exact ⟨_,rfl,rfl⟩
 | true =>
 rw [hb] at hri
 by_cases h0:b < 0
 ·have hof:=pof_no m n b hn fm.names fm.rnames (.inr (.inl h0))
  refine WA (rs:=[(RV.tmp 6)]) Tryz.func3 (fun a w=>Tryz.call3 a w) body3 cc3 (by kernel_rfl) ?_
  rw [Tryz.ntmps3]
  simp only [pC,nA,nS]
  repeat (first | (with_reducible first | refine W8 ?_ | refine VA rfl ?_) | ((with_reducible refine X8 fun K hK=>?_);simp (disch:=first | omega | simp only [sB];omega) only [qB,reduceIte,reduceCtorEq,iT,nA,nS,nM,iA,iS,iM,iN,fU,h0];subst hK) | refine KB (hfm) rfl rfl rfl ?_ | refine KB (hof) rfl rfl rfl ?_ | refine KB (hri) rfl rfl rfl ?_ | refine KB (haw) rfl rfl rfl ?_)
  exact ⟨_,rfl,rfl⟩
 by_cases h1:b < (UA n).length
 case neg =>
  have hof:=pof_no m n b hn fm.names fm.rnames (.inr (.inr (Int.not_lt.1 h1)))
  refine WA (rs:=[(RV.tmp 6)]) Tryz.func3 (fun a w=>Tryz.call3 a w) body3 cc3 (by kernel_rfl) ?_
  rw [Tryz.ntmps3]
  simp only [pC,nA,nS]
  repeat (first | (with_reducible first | refine W8 ?_ | refine VA rfl ?_) | ((with_reducible refine X8 fun K hK=>?_);simp (disch:=first | omega | simp only [sB];omega) only [qB,reduceIte,reduceCtorEq,iT,nA,nS,nM,iA,iS,iM,iN,fU,h0,h1];subst hK) | refine KB (hfm) rfl rfl rfl ?_ | refine KB (hof) rfl rfl rfl ?_ | refine KB (hri) rfl rfl rfl ?_ | refine UJ (haw) ?_)
  exact ⟨_,rfl,rfl⟩
 obtain ⟨b,rfl⟩:∃ k:Nat,b = (k:Int):=⟨b.toNat,by omega⟩
 have hbl:b < (UA n).length:=by omega
 have hB:=blk14 hn fm hb hbl
 have hMr:VD (GH m n b) = SA:=by
  unfold bH at hb
  simp only [JA] at hb
  exact C2 hb.2.2 hb.2.1 hbl
 obtain ⟨hof,rt,fM,hvl,fP,hP6,hPr,hlC,hin⟩:=hB
 have hso:=lZ (GH m n b) 8 3 fM.fits (by decide) (by decide) (by decide) fM.names fM.rnames hMr
 have rtm:=rt_of (by unfold bH at hb;simp only [JA] at hb;exact hb.2.2)
 have hro:=rows9_C m n 3 hn (by have:=fm.vars;omega) fm.names fm.rnames (fun r hr x hx=>(fm.fits.2 r hr).1.2 x hx) (by decide)
 unfold u5 at hro
 rw [hb,if_pos rfl] at hro
 have hRl:(iK m n).length = (UA m.rows).length:=by unfold iK;rw [eA]
 have hR6:=fm.rows
 have hv8:=fm.vars
 have hbn:=qI hbl
 have hVl:(UA (UD n b)).length <= 8:=by have:=fM.vars;omega
 have hcost:=rtm.cost
 have hat:=o8 m.cost (UD n b) (by omega) (by omega)
 rw [atQ_pick (by rw [hcost];exact hin)] at hat
 have hrow:∀ i (hi:i < (UA m.rows).length),(UA (UA m.rows)[i].coef).length = (UA m.vars).length:=fun i hi=>by
  have:=(rtm.row i hi).1
  rwa [FD hi] at this
 have hpr:∀ i (hi:i < (UA m.rows).length),YA Tryz.prog 13 [aV (UA m.rows)[i].coef,QL (UD n b)] (.ret (aV (aC (tF (UA m.rows)[i].coef (UA (UD n b)))))):=fun i hi=>by
  have:=o8 (UA m.rows)[i].coef (UD n b) (by omega) (by rw [hrow i hi];omega)
  rwa [atQ_pick (by rw [hrow i hi];exact hin)] at this
 have hoR:∀ i (hi:i < (UA m.rows).length),OX m n b i = ⟨(UA m.rows)[i].name,aC (tF (UA m.rows)[i].coef (UA (UD n b))),(UA m.rows)[i].rel,(UA m.rows)[i].b⟩:=fun i hi=>by unfold OX;rw [FD hi]
 have hoT:∀ i,iF m n b (i + 1) = if (iK m n).getD i (-1) = (b:Int) then iF m n b i ++ [OX m n b i] else iF m n b i:=fun i=>rfl
 have hoL:=mN m n b
 have hoZ:iF m n b 0 = []:=rfl
 have hps:∀ i (h:i < (UA (UD n b)).length),(sF m.vars (UA (UD n b))).take (i + 1) = (sF m.vars (UA (UD n b))).take i ++ [(UA m.vars).getD ((UA (UD n b))[i]).toNat []]:=fun i h=>uI _ h
 have hpl:(sF m.vars (UA (UD n b))).length = (UA (UD n b)).length:=by unfold sF;rw [eA]
 have s1:=dZ (fX (GH m n b)).B (fX (GH m n b)).B 14 3 fP.2.1 fP.2.1 (by decide) (by decide)
 have s2:=dZ (fX (GH m n b)).C (fX (GH m n b)).C 14 3 fP.2.2 fP.2.2 (by decide) (by decide)
 have s3:∀ v ∈ UA (fX (GH m n b)).A,YA Tryz.prog 16 [aV v,aV v] (.ret (aB SA)):=fun v hv=>by
  have:=dZ v v 14 3 (fP.1.2 v hv) (fP.1.2 v hv) (by decide) (by decide)
  rwa [vX] at this
 rw [vX] at s1 s2
 have hAl:(UA (fX (GH m n b)).A).length <= 6:=hP6
 clear fP hPr hP6 rt fM
 unfold GH at hso hof s1 s2 s3 hAl
 generalize iF m n b = OT at *
 generalize hRv:iK m n = R at *
 generalize hPS:sF m.vars (UA (UD n b)) = PS at *
 generalize tF m.cost (UA (UD n b)) = PQ at *
 generalize fX ⟨aC PS,aC PQ,aC (OT (UA m.rows).length)⟩ = p at *
 rw [hbn] at hat hpr hof hin hVl hps hpl
 generalize hVS:(UA n)[b] = VS at *
 refine WA (rs:=[(RV.tmp 6)]) Tryz.func3 (fun a w=>Tryz.call3 a w) body3 cc3 (by kernel_rfl) ?_
 rw [Tryz.ntmps3]
 simp only [pC,nA,nS]
 repeat (first | (with_reducible first | refine W8 ?_ | refine VA rfl ?_) | ((with_reducible refine X8 fun K hK=>?_);simp (disch:=first | omega | simp only [sB];omega) only [qB,reduceIte,reduceCtorEq,iT,nA,nS,nM,iA,iS,iM,iN,fU,uW,hVS,h0];subst hK) | refine KB (hfm) rfl rfl rfl ?_ | refine KB (hof) rfl rfl rfl ?_ | refine KB (hri) rfl rfl rfl ?_ | refine KB (hat) rfl rfl rfl ?_)
 refine uD.fgt ?_ (TB.phantom _ 9 1)
 refine uD.fgt ?_ (TB.cellsOpen (b:=3) (els':=[[.own 4 0,.c (vr (aC PQ)),.c (.val (.slice QA 0 0))]]) rfl (.cons (.cons (.inr ⟨rfl,4,_,rfl,rfl,rfl⟩) (.cons (.inl rfl) (.cons (.inl rfl) .nil))) .nil))
 simp only [rA,qA,lA,mA]
 refine xB (fun (zz:Nat × (List ZJ) × Nat × Bool)=>⟨(.junk :: .junk :: aI b :: .one (.ptr 0 0 0 0) :: .one (.ptr 1 0 0 0) :: .junk :: .junk :: .one (.ptr 2 0 0 0) :: aI 0 :: .one (.ptr 3 1 0 0) :: K8 (K8 (QL VS :: aI (UA VS).length :: aI zz.1 :: K8 (K8 (K8 (K8 (L8 (J8 (.junk :: []))))))))),[⟨0,26,3,[[.c (jB 1 fW m.vars),.c (vr m.cost),.c (jB 6 DD m.rows)]],SA,SA⟩,⟨0,29,1,[[.c (jB 1 uW n)]],SA,SA⟩,⟨0,37,4,[[.c (jB 1 fM p.A),.c (vr p.B),.c (vr p.C),.c (jB 1 fI VS)]],SA,SA⟩,⟨1,26,3,[[.own 4 zz.2.2.1,.c (vr (aC PQ)),.c (.val (.slice QA 0 0))]],SA,SA⟩,⟨zz.2.2.1,9,1,wB fW zz.2.1,SA,zz.2.2.2⟩]⟩) (fun (zz:Nat × (List ZJ) × Nat × Bool)=>zz.1 <= (UA VS).length /\ zz.2.1 = PS.take zz.1 /\ zz.2.2.2 = !zz.2.1.isEmpty) (fun (zz:Nat × (List ZJ) × Nat × Bool)=>(UA VS).length - zz.1) (0,[],0,TA) ?hI1 (TB.head (FA 5) (TA :: TA :: SA :: SA :: SA :: TA :: TA :: SA :: SA :: SA :: M8 (M8 (SA :: SA :: SA :: []))) ?hT1 ?hH1) ?hB1
 case hT1 | hH1=>first | (simp (disch:=omega) only [pD,IB,lB,XA,clean1,JB,reduceIte,iS,iA,iN,CE];done) | rfl
 ·dsimp only;exact ⟨FA _,rfl,rfl⟩
 rintro ⟨i,out,u,nn⟩ ⟨hi,ho,hnn⟩
 dsimp only at hi ho hnn
 by_cases him:i = (UA VS).length
 case neg =>
  have hlt:i < (UA VS).length:=by omega
  have hps':=hps i hlt
  have hiz:=hin _ (gA hlt)
  have hol:out.length = i:=by rw [ho,List.length_take];omega
  generalize hzz:(UA VS)[i] = z at *
  obtain ⟨k,rfl⟩:∃ k:Nat,z = (k:Int):=⟨z.toNat,by omega⟩
  have hk:k < (UA m.vars).length:=by omega
  have hg:(UA m.vars).getD k [] = (UA m.vars)[k]:=by rw [bA,aA hk];rfl
  rw [Int.toNat_natCast,hg] at hps'
  have hsn:wB fW out ++ [[Cell.c (.str (UA m.vars)[k])]] = wB fW (out ++ [(UA m.vars)[k]]):=by rw [<- XC];rfl
  repeat (first | (with_reducible first | refine W8 ?_ | refine VA rfl ?_) | ((with_reducible refine X8 fun K hK=>?_);simp (disch:=first | omega | simp only [sB];omega) only [qB,reduceIte,reduceCtorEq,iT,nA,nS,nM,iA,iS,iM,iN,fU,fI,fW,hzz,hsn];subst hK))
  refine ⟨(i + 1,out ++ [(UA m.vars)[k]],u + 1,SA),?hI2,?hM2,TB.head (FA 5) (TA :: TA :: SA :: SA :: SA :: TA :: TA :: SA :: SA :: SA :: M8 (M8 (SA :: SA :: SA :: []))) ?hT2 ?hH2⟩
  case hT2 | hH2=>first | (simp (disch:=omega) only [pD,IB,lB,XA,clean1,JB,reduceIte,iS,iA,iN,kA,KA,LA];done) | rfl
  ·dsimp only;exact ⟨by omega,by rw [hps',ho],by cases out <;> rfl⟩
  ·dsimp only;omega
 have ho2:out = PS:=by rw [ho,him,<- hpl];exact List.take_length
 subst ho2
 refine uD.fgt ?_ (TB.cells (b:=3) (els':=[[.c (jB 1 fW (aC out)),.c (vr (aC PQ)),.c (.val (.slice QA 0 0))]]) [4] rfl rfl (.cons (.cons ((JG (c:=4) rfl (by decide) hnn (by simp)).2 0 _ _ rfl rfl) (.cons (.inl rfl) (.cons (.inl rfl) .nil))) .nil))
 rw [oC]
 simp only [lA,mA,YH,nB,nA,IA,if_true,if_false,reduceIte]
 repeat (first | (with_reducible first | refine W8 ?_ | refine VA rfl ?_) | ((with_reducible refine X8 fun K hK=>?_);simp (disch:=first | omega | simp only [sB];omega) only [qB,reduceIte,reduceCtorEq,iT,nA,nS,nM,iA,iS,iM,iN,fU,him];subst hK) | refine KB (hro) rfl rfl rfl ?_)
 clear hi ho him
 refine uD.fgt ?_ (TB.phantom _ 50 6)
 refine uD.fgt ?_ (TB.cellsOpen (b:=3) (els':=[[.c (jB 1 fW (aC out)),.c (vr (aC PQ)),.own 5 0]]) rfl (.cons (.cons (.inl rfl) (.cons (.inl rfl) (.cons (.inr ⟨rfl,5,_,rfl,rfl,rfl⟩) .nil))) .nil))
 simp only [rA,qA,lA,mA]
 refine xB (fun (zz:Nat × (List RowM) × Nat × Bool)=>⟨(.junk :: .junk :: aI b :: .one (.ptr 0 0 0 0) :: .one (.ptr 1 0 0 0) :: .junk :: .junk :: .one (.ptr 2 0 0 0) :: aI 0 :: .one (.ptr 3 1 0 0) :: K8 (K8 (L8 (.junk :: .junk :: .junk :: QL (aC R) :: aI R.length :: aI zz.1 :: K8 (K8 (K8 (K8 (J4 (.junk :: .junk :: []))))))))),[⟨0,26,3,[[.c (jB 1 fW m.vars),.c (vr m.cost),.c (jB 6 DD m.rows)]],SA,SA⟩,⟨0,29,1,[[.c (jB 1 uW n)]],SA,SA⟩,⟨0,37,4,[[.c (jB 1 fM p.A),.c (vr p.B),.c (vr p.C),.c (jB 1 fI VS)]],SA,SA⟩,⟨1,26,3,[[.c (jB 1 fW (aC out)),.c (vr (aC PQ)),.own 5 zz.2.2.1]],SA,SA⟩,⟨u,9,1,wB fW out,TA,nn⟩,⟨zz.2.2.1,50,6,wB DD zz.2.1,SA,zz.2.2.2⟩]⟩) (fun (zz:Nat × (List RowM) × Nat × Bool)=>zz.1 <= R.length /\ zz.2.1 = OT zz.1 /\ zz.2.2.2 = !zz.2.1.isEmpty) (fun (zz:Nat × (List RowM) × Nat × Bool)=>R.length - zz.1) (0,[],0,TA) ?hI3 (TB.head (FA 6) (TA :: TA :: SA :: SA :: SA :: TA :: TA :: SA :: SA :: SA :: M8 (M8 (F16 (TA :: TA :: TA :: SA :: SA :: SA :: [])))) ?hT3 ?hH3) ?hB3
 case hT3 | hH3=>first | (simp (disch:=omega) only [pD,IB,lB,XA,clean1,JB,reduceIte,iS,iA,iN,CE,kV];done) | rfl
 ·dsimp only;exact ⟨FA _,hoZ.symm,rfl⟩
 rintro ⟨i,rws,x,y⟩ ⟨hi,ho,hy⟩
 dsimp only at hi ho hy
 by_cases him:i = R.length
 case neg =>
  have hlt:i < R.length:=by omega
  have hlm:i < (UA m.rows).length:=by omega
  have hlo:i < (UA (aC R)).length:=by rw [kV];exact hlt
  have hge:∀ h:i < (UA (aC R)).length,(UA (aC R))[i] = R[i]:=fun h=>List.getElem_of_eq (WB R) h
  have hgd:R.getD i (-1) = R[i]:=by rw [bA,aA hlt];rfl
  have hos:=hoT i
  rw [hgd] at hos
  have hpi:=hpr i hlm
  have hoi:=hoR i hlm
  have hol:=hoL i
  rw [<- ho] at hol hos
  by_cases he:R[i] = (b:Int)
  ·rw [if_pos he,hoi] at hos
   have hsn:=oY rws ⟨(UA m.rows)[i].name,aC (tF (UA m.rows)[i].coef (UA VS)),(UA m.rows)[i].rel,(UA m.rows)[i].b⟩
   rw [hbn] at hos
   dsimp only at hsn
   repeat (first | (with_reducible first | refine W8 ?_ | refine VA rfl ?_) | ((with_reducible refine X8 fun K hK=>?_);simp (disch:=first | omega | simp only [sB];omega) only [qB,reduceIte,reduceCtorEq,iT,nA,nS,nM,iA,iS,iM,iN,fU,DD,fI,uW,hVS,hge,he,hsn];subst hK) | refine KB (hpi) rfl rfl rfl ?_)
   refine ⟨(i + 1,rws ++ [⟨(UA m.rows)[i].name,aC (tF (UA m.rows)[i].coef (UA VS)),(UA m.rows)[i].rel,(UA m.rows)[i].b⟩],x + 1,SA),?hI4,?hM4,TB.head (FA 6) (TA :: TA :: SA :: SA :: SA :: TA :: TA :: SA :: SA :: SA :: M8 (M8 (F16 (TA :: TA :: TA :: SA :: SA :: SA :: [])))) ?hT4 ?hH4⟩
   case hT4 | hH4=>first | (simp (disch:=omega) only [pD,IB,lB,XA,clean1,JB,reduceIte,iS,iA,iN,kA,KA,LA];done) | rfl
   ·dsimp only;exact ⟨by omega,hos.symm,by cases rws <;> rfl⟩
   ·dsimp only;omega
  ·rw [if_neg he] at hos
   repeat (first | (with_reducible first | refine W8 ?_ | refine VA rfl ?_) | ((with_reducible refine X8 fun K hK=>?_);simp (disch:=first | omega | simp only [sB];omega) only [qB,reduceIte,reduceCtorEq,iT,nA,nS,nM,iA,iS,iM,iN,fU,DD,fI,hge,he];subst hK))
   refine ⟨(i + 1,rws,x,y),?hI5,?hM5,TB.headP (FA 6) (TA :: TA :: SA :: SA :: SA :: TA :: TA :: SA :: SA :: SA :: M8 (M8 (F16 (TA :: TA :: TA :: SA :: SA :: SA :: []))))⟩
   ·dsimp only;exact ⟨by omega,hos.symm,hy⟩
   ·dsimp only;omega
 rw [him,hRl] at ho
 rw [<- ho] at hso
 refine uD.fgt ?_ (TB.cells (b:=3) (els':=[[.c (jB 1 fW (aC out)),.c (vr (aC PQ)),.c (jB 6 DD (aC rws))]]) [5] rfl rfl (.cons (.cons (.inl rfl) (.cons (.inl rfl) (.cons ((JG (c:=5) rfl (by decide) hy (by simp)).2 0 _ _ rfl rfl) .nil))) .nil))
 rw [oC]
 simp only [lA,mA,YH,nB,nA,IA,if_true,if_false,reduceIte]
 repeat (first | (with_reducible first | refine W8 ?_ | refine VA rfl ?_) | ((with_reducible refine X8 fun K hK=>?_);simp (disch:=first | omega | simp only [sB];omega) only [qB,reduceIte,reduceCtorEq,iT,nA,nS,nM,iA,iS,iM,iN,fU,uW,hVS,him];subst hK) | refine KB (hso) rfl rfl rfl ?_ | refine UJ (s1) ?_ | refine UJ (s2) ?_)
 refine xB (fun (zz:Nat)=>⟨(.junk :: .junk :: aI b :: .junk :: .one (.ptr 1 0 0 0) :: .junk :: .junk :: .one (.ptr 2 0 0 0) :: J4 (.junk :: .junk :: .one (.ptr 6 0 0 0) :: K8 (K8 (K8 (K8 (K8 (J8 (J4 (.junk :: .junk :: aI (UA VS).length :: aI zz :: K8 (J4 (.junk :: .junk :: .junk :: []))))))))))),[⟨0,26,3,[[.c (jB 1 fW m.vars),.c (vr m.cost),.c (jB 6 DD m.rows)]],SA,SA⟩,⟨0,29,1,[[.c (jB 1 uW n)]],SA,SA⟩,⟨0,37,4,[[.c (jB 1 fM p.A),.c (vr p.B),.c (vr p.C),.c (jB 1 fI VS)]],SA,SA⟩,⟨1,26,3,[[.c (jB 1 fW (aC out)),.c (vr (aC PQ)),.c (jB 6 DD (aC rws))]],SA,SA⟩,⟨u,9,1,wB fW out,TA,nn⟩,⟨x,50,6,wB DD rws,TA,y⟩,⟨0,34,3,[[.c (jB 1 fM p.A),.c (vr p.B),.c (vr p.C)]],SA,SA⟩]⟩) (fun (zz:Nat)=>zz <= (UA VS).length) (fun (zz:Nat)=>(UA VS).length - zz) (0) ?hI6 (TB.headP (FA 7) (TA :: TA :: SA :: TA :: SA :: TA :: TA :: SA :: F4 (TA :: TA :: SA :: M8 (M8 (M8 (M8 (M8 (F8 (F4 (TA :: TA :: SA :: SA :: [])))))))))) ?hB6
 ·exact FA _
 rintro i hi
 by_cases him:i = (UA VS).length
 case neg =>
  have hlt:i < (UA VS).length:=by omega
  repeat (first | (with_reducible first | refine W8 ?_ | refine VA rfl ?_) | ((with_reducible refine X8 fun K hK=>?_);simp (disch:=first | omega | simp only [sB];omega) only [qB,reduceIte,reduceCtorEq,iT,nA,nS,nM,iA,iS,iM,iN,fU,uW,hVS,fI];subst hK))
  refine ⟨(i + 1),?hI7,?hM7,TB.headP (FA 7) (TA :: TA :: SA :: TA :: SA :: TA :: TA :: SA :: F4 (TA :: TA :: SA :: M8 (M8 (M8 (M8 (M8 (F8 (F4 (TA :: TA :: SA :: SA :: [])))))))))⟩
  ·omega
  ·omega
 repeat (first | (with_reducible first | refine W8 ?_ | refine VA rfl ?_) | ((with_reducible refine X8 fun K hK=>?_);simp (disch:=first | omega | simp only [sB];omega) only [qB,reduceIte,reduceCtorEq,iT,nA,nS,nM,iA,iS,iM,iN,fU,him];subst hK))
 refine xB (fun (zz:Nat)=>⟨(J4 (.junk :: .junk :: .junk :: .one (.ptr 2 0 0 0) :: J4 (.junk :: .junk :: .one (.ptr 6 0 0 0) :: K8 (K8 (K8 (K8 (K8 (K8 (J4 (aI (UA p.A).length :: aI zz :: L8 (.junk :: []))))))))))),[⟨0,26,3,[[.c (jB 1 fW m.vars),.c (vr m.cost),.c (jB 6 DD m.rows)]],SA,SA⟩,⟨0,29,1,[[.c (jB 1 uW n)]],SA,SA⟩,⟨0,37,4,[[.c (jB 1 fM p.A),.c (vr p.B),.c (vr p.C),.c (jB 1 fI VS)]],SA,SA⟩,⟨1,26,3,[[.c (jB 1 fW (aC out)),.c (vr (aC PQ)),.c (jB 6 DD (aC rws))]],SA,SA⟩,⟨u,9,1,wB fW out,TA,nn⟩,⟨x,50,6,wB DD rws,TA,y⟩,⟨0,34,3,[[.c (jB 1 fM p.A),.c (vr p.B),.c (vr p.C)]],SA,SA⟩]⟩) (fun (zz:Nat)=>zz <= (UA p.A).length) (fun (zz:Nat)=>(UA p.A).length - zz) (0) ?hI8 (TB.headP (FA 7) (F4 (TA :: TA :: TA :: SA :: F4 (TA :: TA :: SA :: M8 (M8 (M8 (M8 (M8 (M8 (F4 (SA :: SA :: []))))))))))) ?hB8
 ·exact FA _
 rintro i hi
 by_cases him:i = (UA p.A).length
 case neg =>
  have hlt:i < (UA p.A).length:=by omega
  have h3:=s3 _ (gA hlt)
  repeat (first | (with_reducible first | refine W8 ?_ | refine VA rfl ?_) | ((with_reducible refine X8 fun K hK=>?_);simp (disch:=first | omega | simp only [sB];omega) only [qB,reduceIte,reduceCtorEq,iT,nA,nS,nM,iA,iS,iM,iN,fU,fM];subst hK) | refine KB (h3) rfl rfl rfl ?_)
  refine ⟨(i + 1),?hI9,?hM9,TB.headP (FA 7) (F4 (TA :: TA :: TA :: SA :: F4 (TA :: TA :: SA :: M8 (M8 (M8 (M8 (M8 (M8 (F4 (SA :: SA :: []))))))))))⟩
  ·omega
  ·omega
 repeat (first | (with_reducible first | refine W8 ?_ | refine VA rfl ?_) | ((with_reducible refine X8 fun K hK=>?_);simp (disch:=first | omega | simp only [sB];omega) only [qB,reduceIte,reduceCtorEq,iT,nA,nS,nM,iA,iS,iM,iN,fU,him];subst hK) | refine KB (haw) rfl rfl rfl ?_)
 exact ⟨_,rfl,rfl⟩
end Go.Proofs.YtncgbjhojbnecaaGreat
