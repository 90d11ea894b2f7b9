/- Walks of model: Feasible, of longer numbers; plain: what is added to a point that fits. -/
import Derived.Test.YtncgbjhojbnecaaGreatUV
import Derived.Test.YtncgbjhojbnecaaGreatUX
set_option linter.unusedSimpArgs false
set_option linter.unusedVariables false
set_option linter.unnecessarySimpa false
set_option maxRecDepth 100000
set_option maxHeartbeats 4000000
open Go.Am.Way renaming imp -> W8
open Go.Am.WayR renaming imp -> X8
open Bool renaming false -> TA, not_false -> LA, true -> SA, and_eq_true -> JA, or_true -> KA, false_eq_true -> IA
open Option renaming some -> PA, none -> QA
open Nat renaming le_refl -> EA, zero_le -> fN
open List renaming getElem_mem -> gA, mem_range -> zA, getD_eq_getElem?_getD -> bA, getElem?_eq_getElem -> aA, length_map -> eA, replicate -> jA, length_replicate -> tA, mem_map -> yA, cons_append -> rA, nil_append -> qA, set_cons_succ -> lA, set_cons_zero -> mA, isEmpty_cons -> kA
namespace Go.Proofs.YtncgbjhojbnecaaGreat
open Go Go.Am Go.Proofs Go.RowKit Go.Off
open Nat renaming reduceAdd -> nA,reduceSub -> nS,reduceMul -> nM,reduceBEq -> nB
open Int renaming reduceToNat -> iT,reduceAdd -> iA,reduceSub -> iS,reduceMul -> iM,reduceNeg -> iN
theorem feas1_K (r:RR) (L:Nat) (h:vD r L) (hL:L <= 1000000000):YA Tryz.prog 76 [aR r] (.ret (aB (UY r))):=by
 have hs:=BG r (h.mono (by omega))
 rw [<- I1]
 generalize dE r.top = s at *
 refine WA (rs:=[(RV.tmp 2)]) Tryz.func76 (fun a w=>Tryz.call76 a w) body76 cc76 (by kernel_rfl) ?_
 rw [Tryz.ntmps76]
 simp only [pC,nA,nS]
 repeat (first | (with_reducible first | refine W8 ?_ | refine VA rfl ?_) | ((with_reducible refine X8 fun K hK=>?_);simp (disch:=first | omega | simp only [sB];omega) only [qB,reduceIte,reduceCtorEq,iT,nA,nS,nM,iA,iS,iM,iN,fU];subst hK) | refine KB (hs) rfl rfl rfl ?_)
 exact ⟨_,rfl,rfl⟩
def fRw (g:RowM -> CV) (r:RowM):List CV:=[g r,vr r.coef,.val (.int .i64 r.rel),.val (.bool r.b.minus),nr r.b.size,nr r.b.den]
theorem w9 {h:List Blk} {e:Nat} {l:List (List CV)}:OF h TA (.one (.c (.sl e l))) = PA l.length:=rfl
theorem feas_V (g:RowM -> CV) (m:MD) (Lv:List (List CV)) (hv:Lv.length = (UA m.vars).length) (x:VV) (n L K:Nat) (hf:rR m n L) (hx:vC x n K) (hn:n <= 1000) (hL:1 <= L) (hK:1 <= K) (hL2:L <= 8000000) (hK2:K <= 8000000) (hLK:L + K <= 8000000) (hN:n * (L + K + 1) <= 8990000) (hR:(UA m.rows).length <= 1000000):YA Tryz.prog 31 [.agg [.c (.sl 1 Lv),.c (vr m.cost),.c (jB 6 (fRw g) m.rows)],aV x] (.ret (aB (f4 m x))):=by
 have hx1:=hx.1
 unfold f4
 by_cases c1:(UA x).length = (UA m.vars).length
 case neg =>
  rw [decide_eq_false c1,Bool.false_and]
  refine WA (rs:=[(RV.tmp 4)]) Tryz.func31 (fun a w=>Tryz.call31 a w) body31 cc31 (by kernel_rfl) ?_
  rw [Tryz.ntmps31]
  simp only [pC,nA,nS]
  repeat (first | (with_reducible first | refine W8 ?_ | refine VA rfl ?_) | ((with_reducible refine X8 fun K hK=>?_);simp (disch:=first | omega | simp only [sB];omega) only [qB,reduceIte,reduceCtorEq,iT,nA,nS,nM,iA,iS,iM,iN,fU,w9,hv];subst hK))
  exact ⟨_,rfl,rfl⟩
 rw [decide_eq_true c1,Bool.true_and]
 have hc:=conR_C x 76 UY (by omega) (fun r hr=>feas1_K r K (hx.2 r hr) (by omega))
 cases c2:jG (pAt UY x) (UA x).length with
 | true =>
  rw [c2] at hc
  refine WA (rs:=[(RV.tmp 4)]) Tryz.func31 (fun a w=>Tryz.call31 a w) body31 cc31 (by kernel_rfl) ?_
  rw [Tryz.ntmps31]
  simp only [pC,nA,nS]
  repeat (first | (with_reducible first | refine W8 ?_ | refine VA rfl ?_) | ((with_reducible refine X8 fun K hK=>?_);simp (disch:=first | omega | simp only [sB];omega) only [qB,reduceIte,reduceCtorEq,iT,nA,nS,nM,iA,iS,iM,iN,fU,w9,hv,c1];subst hK) | refine UJ (hc) ?_)
  exact ⟨_,rfl,rfl⟩
 | false =>
 rw [c2] at hc
 rw [LA,Bool.true_and]
 refine WA (rs:=[(RV.tmp 4)]) Tryz.func31 (fun a w=>Tryz.call31 a w) body31 cc31 (by kernel_rfl) ?_
 rw [Tryz.ntmps31]
 simp only [pC,nA,nS]
 repeat (first | (with_reducible first | refine W8 ?_ | refine VA rfl ?_) | ((with_reducible refine X8 fun K hK=>?_);simp (disch:=first | omega | simp only [sB];omega) only [qB,reduceIte,reduceCtorEq,iT,nA,nS,nM,iA,iS,iM,iN,fU,w9,hv,c1];subst hK) | refine UJ (hc) ?_)
 refine xB (fun (zz:Nat)=>⟨(.junk :: aV x :: L8 (.junk :: .junk :: .junk :: .one (.c (jB 6 (fRw g) m.rows)) :: aI (UA m.rows).length :: aI zz :: L8 (J8 (.junk :: .junk :: .junk :: [])))),[]⟩) (fun (zz:Nat)=>zz <= (UA m.rows).length /\ KN (c5 m x) zz = SA) (fun (zz:Nat)=>(UA m.rows).length - zz) (0) ?hI1 (TB.headA (EA _) [TA,SA,TA,TA,TA,TA,TA,TA,TA,TA,TA,TA,TA,TA,TA,TA,TA,TA,TA,TA,TA,SA,SA,SA]) ?hB1
 ·exact ⟨fN _,rfl⟩
 rintro i ⟨hi,hs⟩
 by_cases him:i = (UA m.rows).length
 ·rw [<- him,hs]
  repeat (first | (with_reducible first | refine W8 ?_ | refine VA rfl ?_) | ((with_reducible refine X8 fun K hK=>?_);simp (disch:=first | omega | simp only [sB];omega) only [qB,reduceIte,reduceCtorEq,iT,nA,nS,nM,iA,iS,iM,iN,fU];subst hK))
  exact ⟨_,rfl,rfl⟩
 have hlt:i < (UA m.rows).length:=by omega
 have hrf:=(hf.2 _ (gA hlt)).1
 have hbf:=(hf.2 _ (gA hlt)).2
 have hd:=dot_W (UA m.rows)[i].coef x n L K hrf hx hn hL hK hL2 hK2 hLK hN
 have hfd:=NS hrf hx hL hK
 have hcm:=BL (eB (aL (UA m.rows)[i].coef x)) (UA m.rows)[i].b ((QB hfd).mono (by omega)) (hbf.mono (by omega))
 rw [rawQ_val] at hcm
 have hro:c5 m x i = okZ (UA m.rows)[i].rel (LM (aL (UA m.rows)[i].coef x) (UA m.rows)[i].b.val):=by unfold c5;rw [FD hlt]
 generalize LM (aL (UA m.rows)[i].coef x) (UA m.rows)[i].b.val = z at *
 have hcase:((UA m.rows)[i].rel <= 0 /\ 0 < z /\ c5 m x i = TA) \/ ((UA m.rows)[i].rel <= 0 /\ ¬ 0 < z /\ 0 <= (UA m.rows)[i].rel /\ z < 0 /\ c5 m x i = TA) \/ ((UA m.rows)[i].rel <= 0 /\ ¬ 0 < z /\ 0 <= (UA m.rows)[i].rel /\ ¬ z < 0 /\ c5 m x i = SA) \/ ((UA m.rows)[i].rel <= 0 /\ ¬ 0 < z /\ ¬ 0 <= (UA m.rows)[i].rel /\ c5 m x i = SA) \/
   (¬ (UA m.rows)[i].rel <= 0 /\ 0 <= (UA m.rows)[i].rel /\ z < 0 /\ c5 m x i = TA) \/ (¬ (UA m.rows)[i].rel <= 0 /\ 0 <= (UA m.rows)[i].rel /\ ¬ z < 0 /\ c5 m x i = SA):=by
  rw [hro]
  unfold okZ
  by_cases h1:(UA m.rows)[i].rel <= 0
  ·by_cases h2:0 < z
   ·exact .inl ⟨h1,h2,by simp [h1,h2]⟩
   ·by_cases h3:0 <= (UA m.rows)[i].rel
    ·by_cases h4:z < 0
     ·exact .inr (.inl ⟨h1,h2,h3,h4,by simp [h3,h4]⟩)
     ·exact .inr (.inr (.inl ⟨h1,h2,h3,h4,by simp [h2,h4]⟩))
    ·exact .inr (.inr (.inr (.inl ⟨h1,h2,h3,by simp [h2,h3]⟩)))
  ·have h3:0 <= (UA m.rows)[i].rel:=by omega
   by_cases h4:z < 0
   ·exact .inr (.inr (.inr (.inr (.inl ⟨h1,h3,h4,by simp [h3,h4]⟩))))
   ·exact .inr (.inr (.inr (.inr (.inr ⟨h1,h3,h4,by simp [h1,h4]⟩))))
 clear hro
 rcases hcase with ⟨h1,h2,hro⟩ | ⟨h1,h2,h3,h5,hro⟩ | ⟨h1,h2,h3,h5,hro⟩ | ⟨h1,h2,h3,hro⟩ | ⟨h1,h3,h5,hro⟩ | ⟨h1,h3,h5,hro⟩
 ·rw [aF hlt hro]
  repeat (first | (with_reducible first | refine W8 ?_ | refine VA rfl ?_) | ((with_reducible refine X8 fun K hK=>?_);simp (disch:=first | omega | simp only [sB];omega) only [qB,reduceIte,reduceCtorEq,iT,nA,nS,nM,iA,iS,iM,iN,fU,fRw];subst hK) | refine KB (hd) rfl rfl rfl ?_ | refine KB (hcm) rfl rfl rfl ?_)
  exact ⟨_,rfl,rfl⟩
 ·rw [aF hlt hro]
  repeat (first | (with_reducible first | refine W8 ?_ | refine VA rfl ?_) | ((with_reducible refine X8 fun K hK=>?_);simp (disch:=first | omega | simp only [sB];omega) only [qB,reduceIte,reduceCtorEq,iT,nA,nS,nM,iA,iS,iM,iN,fU,fRw];subst hK) | refine KB (hd) rfl rfl rfl ?_ | refine KB (hcm) rfl rfl rfl ?_)
  exact ⟨_,rfl,rfl⟩
 ·repeat (first | (with_reducible first | refine W8 ?_ | refine VA rfl ?_) | ((with_reducible refine X8 fun K hK=>?_);simp (disch:=first | omega | simp only [sB];omega) only [qB,reduceIte,reduceCtorEq,iT,nA,nS,nM,iA,iS,iM,iN,fU,fRw];subst hK) | refine KB (hd) rfl rfl rfl ?_ | refine KB (hcm) rfl rfl rfl ?_)
  refine ⟨(i + 1),?hI2,?hM2,TB.headA (EA _) [TA,SA,TA,TA,TA,TA,TA,TA,TA,TA,TA,TA,TA,TA,TA,TA,TA,TA,TA,TA,TA,SA,SA,SA]⟩
  ·exact ⟨Nat.succ_le_of_lt hlt,by rw [VK,hs,hro];rfl⟩
  ·show (UA m.rows).length - (i + 1) < (UA m.rows).length - i;omega
 ·repeat (first | (with_reducible first | refine W8 ?_ | refine VA rfl ?_) | ((with_reducible refine X8 fun K hK=>?_);simp (disch:=first | omega | simp only [sB];omega) only [qB,reduceIte,reduceCtorEq,iT,nA,nS,nM,iA,iS,iM,iN,fU,fRw];subst hK) | refine KB (hd) rfl rfl rfl ?_ | refine KB (hcm) rfl rfl rfl ?_)
  refine ⟨(i + 1),?hI3,?hM3,TB.headA (EA _) [TA,SA,TA,TA,TA,TA,TA,TA,TA,TA,TA,TA,TA,TA,TA,TA,TA,TA,TA,TA,TA,SA,SA,SA]⟩
  ·exact ⟨Nat.succ_le_of_lt hlt,by rw [VK,hs,hro];rfl⟩
  ·show (UA m.rows).length - (i + 1) < (UA m.rows).length - i;omega
 ·rw [aF hlt hro]
  repeat (first | (with_reducible first | refine W8 ?_ | refine VA rfl ?_) | ((with_reducible refine X8 fun K hK=>?_);simp (disch:=first | omega | simp only [sB];omega) only [qB,reduceIte,reduceCtorEq,iT,nA,nS,nM,iA,iS,iM,iN,fU,fRw];subst hK) | refine KB (hd) rfl rfl rfl ?_ | refine KB (hcm) rfl rfl rfl ?_)
  exact ⟨_,rfl,rfl⟩
 ·repeat (first | (with_reducible first | refine W8 ?_ | refine VA rfl ?_) | ((with_reducible refine X8 fun K hK=>?_);simp (disch:=first | omega | simp only [sB];omega) only [qB,reduceIte,reduceCtorEq,iT,nA,nS,nM,iA,iS,iM,iN,fU,fRw];subst hK) | refine KB (hd) rfl rfl rfl ?_ | refine KB (hcm) rfl rfl rfl ?_)
  refine ⟨(i + 1),?hI4,?hM4,TB.headA (EA _) [TA,SA,TA,TA,TA,TA,TA,TA,TA,TA,TA,TA,TA,TA,TA,TA,TA,TA,TA,TA,TA,SA,SA,SA]⟩
  ·exact ⟨Nat.succ_le_of_lt hlt,by rw [VK,hs,hro];rfl⟩
  ·show (UA m.rows).length - (i + 1) < (UA m.rows).length - i;omega
theorem feas_yes {p:PB} (hr:AD p = SA) {X:List Rat} (hl:X.length = (UA p.C).length) (h:R8 (GC p) X):r9 p (aQ X) = SA:=by
 have hdot:∀ i,i < (UA p.A).length -> aL (RJ p.A i) (aQ X) = wX (GC p) X i:=fun i hi=>by
  obtain ⟨_,_,_,l4⟩:=qG hr
  rw [c7]
  unfold dP
  rw [nD,hl,mF hi,l4 i hi,Nat.min_self,<- mF hi]
  exact dB (fun k _=>by rw [wV];rfl)
 obtain ⟨_,h1,h2⟩:=h
 unfold r9
 rw [hr,nD,hl,decide_eq_true rfl]
 simp only [Bool.true_and,JA,Bool.not_eq_true']
 refine ⟨AU (fun k hk=>?_),?_⟩
 ·have e:pAt UY (aQ X) k = decide (jE (aQ X) k < 0):=rfl
  rw [e,decide_eq_false_iff_not,Rat.not_lt,wV]
  exact h1 k hk
 ·unfold doesTo
  rw [List.all_eq_true]
  intro i hi
  rw [decide_eq_true_eq,hdot i (zA.1 hi)]
  exact h2 i (zA.1 hi)
theorem x9 {p:PB} {c:VV} (h2:(UA c).length <= (UA p.C).length) (x:List Rat):R8 (GC (WH p c)) x ↔ R8 (GC p) x:=by
 unfold R8 wX GC
 simp only [WY h2]
 exact Iff.rfl
theorem none_feas {m:MD} (h:RtMd m) {c:VV} (hc:(UA c).length <= (UA (fX m).C).length) {r:SR} (hr:ZR (GC (WH (fX m) c)) r) (hv:r.v = 2) (x:VV):f4 m x = TA:=by
 cases hf:f4 m x with
 | false=>rfl
 | true =>
  have h1:=o9 (T9 h hf)
  rw [dS] at h1
  exact (prov_no hr hv ((x9 hc _).2 h1)).elim
theorem feas_len {m:MD} {x:VV} (h:f4 m x = SA):(UA x).length = (UA m.vars).length:=by
 unfold f4 at h
 simp only [JA,decide_eq_true_eq] at h
 exact h.1
theorem getD_in {l:List Rat} {k:Nat} (h:k < l.length):l[k] = l.getD k 0:=by rw [bA,aA h];rfl
theorem ray_feas {m:MD} (h:RtMd m) {c:VV} (hcl:(UA c).length = (UA m.vars).length) (hc:(UA c).length <= (UA (fX m).C).length) {r:SR} (hr:ZR (GC (WH (fX m) c)) r) (hv:r.v = 3) {x:VV} (hf:f4 m x = SA) :
  f4 m (aQ (A8 x (nW (UA c).length (aQ r.Ray)))) = SA:=by
 have hx:=feas_len hf
 have h1:=o9 (T9 h hf)
 rw [dS] at h1
 have h2:=(x9 hc _).2 h1
 rcases hr with ⟨h,_⟩ | ⟨h,_⟩ | ⟨_,_,hX,hl,hpos,hrow,_⟩
 ·omega
 ·omega
 have h3:=along_feas h2 hpos hrow (t:=1) (by decide)
 have hn:(GC (WH (fX m) c)).n = (UA (fX m).C).length:=WY hc
 have h4:=(x9 hc _).1 h3
 rw [hn] at h4 hl
 have hyl:(f7 (UA (fX m).C).length (s4 m x) r.Ray 1).length = (UA (fX m).C).length:=h4.1
 have h5:=feas_yes (J2 h) hyl h4
 have h6:=does_feas h h5
 have e:g9 m (aQ (f7 (UA (fX m).C).length (s4 m x) r.Ray 1)) = A8 x (nW (UA c).length (aQ r.Ray)):=by
  have lb:(g9 m (aQ (f7 (UA (fX m).C).length (s4 m x) r.Ray 1))).length = (UA m.vars).length:=d9 (by rw [BP,hyl];omega)
  have lh:(UA (nW (UA c).length (aQ r.Ray))).length = (UA c).length:=by rw [nQ,List.length_take,BP];omega
  have la:(A8 x (nW (UA c).length (aQ r.Ray))).length = (UA m.vars).length:=by
   unfold A8
   rw [eA,List.length_range,lh,hx,hcl,Nat.max_self]
  refine List.ext_getElem (by rw [lb,la]) (fun k k1 k2=>?_)
  rw [lb] at k1
  have e1:=k9 (m:=m) (y:=aQ (f7 (UA (fX m).C).length (s4 m x) r.Ray 1)) k1
  rw [s5,s5] at e1
  have e2:(f7 (UA (fX m).C).length (s4 m x) r.Ray 1).getD k 0 = (s4 m x).getD k 0 + r.Ray.getD k 0 * 1:=y9 (by omega) _ _ _
  have e3:(A8 x (nW (UA c).length (aQ r.Ray))).getD k 0 = jE x k + jE (nW (UA c).length (aQ r.Ray)) k:=dD _ (fun i=>jE x i + jE (nW (UA c).length (aQ r.Ray)) i) k 0 (by rw [lh,hx,hcl,Nat.max_self];exact k1)
  rw [getD_in k2,getD_in (by rw [lb];exact k1),e1,e2,e3,i9 (by omega),Rat.mul_one]
  congr 1
  unfold jE dF
  rw [nQ,bA,bA,List.getElem?_take_of_lt (by omega),RE,List.getElem?_map]
  cases r.Ray[k]? with
  | none=>exact cP.symm
  | some q=>exact (rawQ_val q).symm
 rw [e] at h6
 exact h6
theorem feas_cong {m k:MD} (hv:(UA k.vars).length = (UA m.vars).length) (hr:k.rows = m.rows \/ ((UA k.rows).length = (UA m.rows).length /\ ∀ i,i < (UA m.rows).length -> (MG k i).coef = (MG m i).coef /\ (MG k i).rel = (MG m i).rel /\ (MG k i).b = (MG m i).b)) (x:VV):f4 k x = f4 m x:=by
 have key:(UA k.rows).length = (UA m.rows).length /\ ∀ i,i < (UA m.rows).length -> c5 k x i = c5 m x i:=by
  rcases hr with h | ⟨h1,h2⟩
  ·refine ⟨by rw [h],fun i _=>?_⟩
   unfold c5 MG;rw [h]
  ·refine ⟨h1,fun i hi=>?_⟩
   obtain ⟨a,b,c⟩:=h2 i hi
   unfold c5;rw [a,b,c]
 unfold f4
 rw [hv,key.1]
 have:KN (c5 k x) (UA m.rows).length = KN (c5 m x) (UA m.rows).length:=by
  unfold KN
  rw [Bool.eq_iff_iff,List.all_eq_true,List.all_eq_true]
  constructor
  ·intro h i hi
   rw [<- key.2 i (zA.1 hi)];exact h i hi
  ·intro h i hi
   rw [key.2 i (zA.1 hi)];exact h i hi
 rw [this]
def nmE:RowM -> CV:=fun _=>.val (.string ⟨#[]⟩)
def b9 (r:RowM):RowM:=⟨[],r.coef,r.rel,r.b⟩
def s6 (m:MD) (n:NB) (b:Nat):MD:=⟨PA (jA (UA (UD n b)).length []),QA,aC ((iF m n b (UA m.rows).length).map b9)⟩
theorem X9 (m:MD) (n:NB) (b:Nat) (x:VV):f4 (s6 m n b) x = f4 (GH m n b) x:=by
 have e1:UA (s6 m n b).rows = (iF m n b (UA m.rows).length).map b9:=WB _
 have e2:UA (GH m n b).rows = iF m n b (UA m.rows).length:=WB _
 have e3:UA (GH m n b).vars = sF m.vars (UA (UD n b)):=WB _
 refine feas_cong ?_ (.inr ⟨by rw [e1,e2,eA],fun i hi=>?_⟩) x
 ·rw [e3]
  unfold sF
  rw [eA]
  exact tA
 ·have hi':i < (UA (s6 m n b).rows).length:=by rw [e1,eA,<- e2];exact hi
  rw [FD hi',FD hi,List.getElem_of_eq e1,List.getElem_of_eq e2,List.getElem_map]
  exact ⟨rfl,rfl,rfl⟩
theorem W9 {m:MD} {n:NB} {b:Nat} (h:FewMd (GH m n b)):rR (s6 m n b) 14 3:=by
 refine ⟨⟨fN _,fun r hr=>by cases hr⟩,fun r hr=>?_⟩
 rw [show UA (s6 m n b).rows = (iF m n b (UA m.rows).length).map b9 from WB _] at hr
 obtain ⟨q,hq,rfl⟩:=yA.1 hr
 have:=h.fits.2 q (by rw [show UA (GH m n b).rows = iF m n b (UA m.rows).length from WB _];exact hq)
 exact ⟨⟨by have:=this.1.1;show (UA q.coef).length <= 14;omega,this.1.2⟩,this.2⟩
theorem addQ_fits {x X:VV} {n L K:Nat} (hx:vC x n L) (hX:vC X n K) (hL:1 <= L) (hK:1 <= K):vC (aQ (A8 x X)) n (L + K + 1):=by
 refine ⟨?_,fun r hr=>?_⟩
 ·rw [BP]
  unfold A8
  rw [eA,List.length_range]
  have:=hx.1
  have:=hX.1
  omega
 ·rw [RE] at hr
  obtain ⟨q,hq,rfl⟩:=yA.1 hr
  unfold A8 at hq
  obtain ⟨i,_,rfl⟩:=yA.1 hq
  exact QB (((hx.at i).val hL).add1 ((hX.at i).val hK))
theorem offV_how {p:PB} {c:VV} {r:SR} {P:PF} {K:Nat} (hp:ZR P r) (hc:(UA c).length <= 14) (hx:oF r.X K) (hy:oF r.Ray K):∃ kd X c0,offV p c r = aOf kd X c0 /\ vC X 14 K /\ ((kd = 1 /\ r.v = 1) \/ (kd = 0 /\ r.v = 2) \/ (kd = 2 /\ r.v = 3 /\ X = nW (UA c).length (aQ r.Ray))):=by
 have key:∀ l:List Rat,oF l K -> vC (nW (UA c).length (aQ l)) 14 K:=fun l hl=>by
  refine ⟨by rw [nQ,List.length_take];omega,fun r hr=>?_⟩
  rw [nQ] at hr
  have hr':=List.mem_of_mem_take hr
  rw [RE] at hr'
  obtain ⟨q,hq,rfl⟩:=yA.1 hr'
  exact QB (hl q hq)
 unfold offV
 rcases prov_v hp with hv | hv | hv
 ·rw [if_pos hv];exact ⟨_,_,_,rfl,key _ hx,.inl ⟨rfl,hv⟩⟩
 ·rw [if_neg (by omega),if_neg (by omega)];exact ⟨_,_,_,rfl,⟨fN _,fun r hr=>by cases hr⟩,.inr (.inl ⟨rfl,hv⟩)⟩
 ·rw [if_neg (by omega),if_pos hv];exact ⟨_,_,_,rfl,key _ hy,.inr (.inr ⟨rfl,hv,rfl⟩)⟩
abbrev c8_k1:CC:=(.seq (.seq (.reg [(fA 109 0 13),(lF 110 1 109),(bC 111 .neq 110 2),(mV 112 111),(oG 113 112 TA (.load 3 SA (tP 16))),(gM 114 112 TA 4),(oG 115 112 TA (.callf (.func 31) [(tP 113),(tP 114)])),(oG 116 112 TA (.un .not (tP 115))),(pT 117 112 116)]) (.cond (tP 117) (.seq (.reg [(fA 118 0 13),(lF 119 1 118),(bC 120 .neq 119 0),(mV 121 120),(oG 122 121 TA (.load 3 SA (tP 16))),(gM 123 121 TA 4),(oG 124 121 TA (.callf (.func 31) [(tP 122),(tP 123)])),(oG 125 121 TA (.un .not (tP 124))),(pT 126 121 125),(mV 127 126),(oG 128 127 SA (.callf (.func 10) [])),(pF 129 127 128),(mV 10 129)]) .ret) .skip)) (.seq (.reg [(lT 130 3 16),(mV 131 4),(fA 132 1 13),(lF 133 1 132),(oD 134 (.callf (.func 32) [(tP 131),(tP 133)])),(oD 135 (.callf (.func 31) [(tP 130),(tP 134)])),(mV 136 135),(oG 137 136 SA (.callf (.func 10) [])),(pF 138 136 137),(mV 10 138)]) .ret))
abbrev c8_b1:CC:=(.seq (.reg [(bB 74 .lss 73 72)]) (.seq (.cond (tP 74) .skip (.exit 0)) (.seq (.block 1 (.seq (.reg [(mV 75 73),(xA 76 1 71 73),(lF 77 1 76),(mV 17 75),(mV 18 77)]) (.seq (.reg [(mV 78 18),(mV 79 2),(bB 80 .eql 78 79)]) (.cond (tP 80) (.reg [(fA 81 2 16),(lF 82 1 81),(fA 83 2 5),(lF 84 1 83),(mV 85 17),(xA 86 6 84 85),(fA 87 1 86),(lF 88 1 87),(fA 89 3 11),(lF 90 1 89),(oD 91 (.callf (.func 13) [(tP 88),(tP 90)])),(fA 92 2 5),(lF 93 1 92),(mV 94 17),(xA 95 6 93 94),(fA 96 2 95),(lF 97 1 96),(fA 98 2 5),(lF 99 1 98),(mV 100 17),(xA 101 6 99 100),(fA 102 3 101),(lT 103 3 102),(oD 104 (.build [(.string ⟨#[]⟩),(.slice QA 0 0),(.int .i64 (0)),(.bool TA),(.slice QA 0 0),(.slice QA 0 0)] [(1,(1,(tP 91))),(2,(1,(tP 97))),(3,(3,(tP 103)))])),(oD 105 (.mkrow 50 6 [(tP 104)])),(oD 106 (.append 50 6 104 (tP 82) (tP 105))),(fA 107 2 16),(sT 1 107 106)]) .skip)))) (.reg [(bC 108 .add 73 1),(mV 73 108)]))))
abbrev c8:CC:=(.seq (.reg [(oD 5 (.box 26 (tP 0))),(oD 6 (.box 29 (tP 1))),(mB 10 TA)]) (.seq (.seq (.reg [(lT 19 3 5),(lT 20 1 6),(oD 21 (.callf (.func 9) [(tP 19),(tP 20)])),(uN 22 21),(mV 23 22),(gM 24 23 TA 3),(oG 25 23 TA (.callf (.func 18) [(tP 24)])),(oG 26 23 TA (.un .not (tP 25))),(pT 27 23 26),(mV 28 27),(gM 29 28 TA 4),(oG 30 28 TA (.callf (.func 18) [(tP 29)])),(oG 31 28 TA (.un .not (tP 30))),(pT 32 28 31)]) (.cond (tP 32) (.seq (.reg [(oD 33 (.callf (.func 10) [])),(mV 10 33)]) .ret) .skip)) (.seq (.reg [(lT 35 3 5),(lT 36 1 6),(mV 37 2),(oD 38 (.callf (.func 11) [(tP 35),(tP 36),(tP 37)])),(mV 34 38),(eX 39 34 0),(eX 40 34 1),(oD 11 (.new 37 [(.slice QA 0 0),(.slice QA 0 0),(.slice QA 0 0),(.slice QA 0 0)])),(sT 4 11 39),(mV 12 40)]) (.seq (.seq (.reg [(mV 41 12),(bC 42 .neq 41 0),(mV 43 42),(gM 44 43 TA 3),(oG 45 43 TA (.len TA (tP 44))),(oG 46 43 TA (.faddr 3 (tP 11))),(oG 47 43 TA (.load 1 TA (tP 46))),(oG 48 43 TA (.len TA (tP 47))),(oG 49 43 TA (.bin .neq (tP 45) (tP 48))),(pT 50 43 49)]) (.cond (tP 50) (.seq (.reg [(oD 51 (.callf (.func 10) [])),(mV 10 51)]) .ret) .skip)) (.seq (.reg [(lT 53 4 11),(mV 54 3),(oD 55 (.callf (.func 17) [(tP 53),(tP 54),(.const (.int .i64 (65536)))])),(mV 52 55),(eX 56 52 0),(eX 57 52 1),(eX 58 52 2),(oD 13 (.new 56 [(.int .i64 (0)),(.slice QA 0 0),(.bool TA),(.slice QA 0 0),(.slice QA 0 0)])),(sT 5 13 56),(mV 14 57),(mV 15 58)]) (.seq (.seq (.reg [(mV 59 15),(bC 60 .neq 59 0)]) (.cond (tP 60) (.seq (.reg [(mB 10 TA)]) .ret) .skip)) (.seq (.regn SA [(fA 61 3 11),(lF 62 1 61),(nL 63 62),(oD 64 (.mm TA (tP 63) (.const (.int .i64 (10))))),(oD 65 (.makec 1 16 [(.string ⟨#[]⟩)] (tP 64) (tP 64))),(mV 66 3),(oD 67 (.callf (.func 13) [(tP 66),nC])),(oD 68 (.build [(.slice QA 0 0),(.slice QA 0 0),(.slice QA 0 0)] [(0,(1,(tP 65))),(1,(1,(tP 67)))])),(oD 16 (.fill 26 [(.slice QA 0 0),(.slice QA 0 0),(.slice QA 0 0)])),(sT 3 16 68)]) (.seq (.seq (.reg [(lT 69 3 5),(lT 70 1 6),(oD 71 (.callf (.func 14) [(tP 69),(tP 70)])),(nL 72 71),(mI 73 0)]) (.block 0 (.loop c8_b1))) c8_k1))))))))
theorem cc8:ZA Tryz.prog [] (Tryz.f8.body.getD .skip) = PA c8:=by kernel_rfl
theorem V9:Tryz.f8.body = PA (Tryz.f8.body.getD .skip):=rfl
theorem priceRays_C (m:MD) (n:NB) (b:Int) (c x:VV) (hi:∀ s ∈ UA n,∀ z ∈ UA s,-9223372036854775808 <= z /\ z <= 9223372036854775807) (hl:(UA n).length <= 9223372036854775807):YA Tryz.prog 8 [aMd m,aNo n,aI b,aV c,aV x] (.ret (aB SA)):=by
 have haw:=awake14_C
 have hfm:=few14_C m n hl
 have hfc:=bO c
 have hfx:=bO x
 cases c1:few14 m n with
 | false =>
  rw [c1] at hfm
  refine WA (rs:=[(RV.tmp 10)]) Tryz.func8 (fun a w=>Tryz.call8 a w) V9 cc8 (by kernel_rfl) ?_
  rw [Tryz.ntmps8]
  simp only [pC,nA,nS]
  repeat (first | (with_reducible first | refine W8 ?_ | refine VA rfl ?_) | ((with_reducible refine X8 fun K hK=>?_);simp (disch:=first | omega | simp only [sB];omega) only [qB,reduceIte,reduceCtorEq,iT,nA,nS,nM,iA,iS,iM,iN,fU];subst hK) | refine KB (hfm) rfl rfl rfl ?_ | refine KB (haw) rfl rfl rfl ?_)
  exact ⟨_,rfl,rfl⟩
 | true =>
 rw [c1] at hfm
 cases c2:YJ c with
 | false =>
  rw [c2] at hfc
  refine WA (rs:=[(RV.tmp 10)]) Tryz.func8 (fun a w=>Tryz.call8 a w) V9 cc8 (by kernel_rfl) ?_
  rw [Tryz.ntmps8]
  simp only [pC,nA,nS]
  repeat (first | (with_reducible first | refine W8 ?_ | refine VA rfl ?_) | ((with_reducible refine X8 fun K hK=>?_);simp (disch:=first | omega | simp only [sB];omega) only [qB,reduceIte,reduceCtorEq,iT,nA,nS,nM,iA,iS,iM,iN,fU];subst hK) | refine KB (hfm) rfl rfl rfl ?_ | refine UJ (hfc) ?_ | refine KB (haw) rfl rfl rfl ?_)
  exact ⟨_,rfl,rfl⟩
 | true =>
 rw [c2] at hfc
 cases c3:YJ x with
 | false =>
  rw [c3] at hfx
  refine WA (rs:=[(RV.tmp 10)]) Tryz.func8 (fun a w=>Tryz.call8 a w) V9 cc8 (by kernel_rfl) ?_
  rw [Tryz.ntmps8]
  simp only [pC,nA,nS]
  repeat (first | (with_reducible first | refine W8 ?_ | refine VA rfl ?_) | ((with_reducible refine X8 fun K hK=>?_);simp (disch:=first | omega | simp only [sB];omega) only [qB,reduceIte,reduceCtorEq,iT,nA,nS,nM,iA,iS,iM,iN,fU];subst hK) | refine KB (hfm) rfl rfl rfl ?_ | refine UJ (hfc) ?_ | refine UJ (hfx) ?_ | refine KB (haw) rfl rfl rfl ?_)
  exact ⟨_,rfl,rfl⟩
 | true =>
 rw [c3] at hfx
 have hc8:=TI c2
 have hx8:=TI c3
 obtain ⟨hn,hl10,hs10,f8⟩:=few14_fits c1 hi
 have fm:=fewMd_is f8
 by_cases hyes:bH m n = SA /\ 0 <= b /\ b < (UA n).length
 case neg =>
  have hof:=pof_no m n b hn fm.names fm.rnames (by
   cases hb:bH m n with
   | false=>exact .inl rfl
   | true =>
    rw [hb] at hyes
    refine .inr ?_
    by_cases h0:b < 0
    ·exact .inl h0
    ·exact .inr (Int.not_lt.1 (fun h=>hyes ⟨rfl,by omega,h⟩)))
  refine WA (rs:=[(RV.tmp 10)]) Tryz.func8 (fun a w=>Tryz.call8 a w) V9 cc8 (by kernel_rfl) ?_
  rw [Tryz.ntmps8]
  simp only [pC,nA,nS]
  repeat (first | (with_reducible first | refine W8 ?_ | refine VA rfl ?_) | ((with_reducible refine X8 fun K hK=>?_);simp (disch:=first | omega | simp only [sB];omega) only [qB,reduceIte,reduceCtorEq,iT,nA,nS,nM,iA,iS,iM,iN,fU];subst hK) | refine KB (hfm) rfl rfl rfl ?_ | refine UJ (hfc) ?_ | refine UJ (hfx) ?_ | refine KB (hof) rfl rfl rfl ?_ | refine KB (haw) rfl rfl rfl ?_)
  exact ⟨_,rfl,rfl⟩
 obtain ⟨hb,h0,h1⟩:=hyes
 obtain ⟨b,rfl⟩:∃ k:Nat,b = (k:Int):=⟨b.toNat,by omega⟩
 obtain ⟨hof,rt,fM,hvl,fP,hP6,hPr,hlC,hin⟩:=blk14 hn fm hb (by omega:b < (UA n).length)
 by_cases hcl:(UA c).length = (UA (UD n b)).length
 case neg =>
  have hcl':¬ ((UA c).length:Int) = (UA (UD n b)).length:=by omega
  generalize fX (GH m n b) = p at *
  generalize UD n b = vs at *
  refine WA (rs:=[(RV.tmp 10)]) Tryz.func8 (fun a w=>Tryz.call8 a w) V9 cc8 (by kernel_rfl) ?_
  rw [Tryz.ntmps8]
  simp only [pC,nA,nS]
  repeat (first | (with_reducible first | refine W8 ?_ | refine VA rfl ?_) | ((with_reducible refine X8 fun K hK=>?_);simp (disch:=first | omega | simp only [sB];omega) only [qB,reduceIte,reduceCtorEq,iT,nA,nS,nM,iA,iS,iM,iN,fU,hcl'];subst hK) | refine KB (hfm) rfl rfl rfl ?_ | refine UJ (hfc) ?_ | refine UJ (hfx) ?_ | refine KB (hof) rfl rfl rfl ?_ | refine KB (haw) rfl rfl rfl ?_)
  exact ⟨_,rfl,rfl⟩
 have hcl':((UA c).length:Int) = (UA (UD n b)).length:=by omega
 have hcf:vC c 14 3:=⟨by have:=hc8.1;omega,hc8.2⟩
 have hxf:vC x 14 3:=⟨by have:=hx8.1;omega,hx8.2⟩
 have hbl:(UA (UD n b)).length <= 8:=by have:=fM.vars;omega
 obtain ⟨r,T,ha,_⟩:=asked (fX (GH m n b)) (WH (fX (GH m n b)) c) (UD n b) c fP hP6 hPr hcf hcl (by omega) 3 (CS fP hP6 hPr hcf (by omega)) rfl
 have hT:=ha.steps
 have q1:=ha.yes 65536 (by omega) (by omega)
 have hpv:=ha.told.prov
 obtain ⟨kd,X,c0,hoff,hXf,hkd⟩:=offV_how (p:=fX (GH m n b)) hpv hcf.1 ha.told.fx ha.told.fr
 rw [hoff] at q1
 have f1:=feas_V nmE (s6 m n b) (jA (UA (UD n b)).length [.val (.string ⟨#[]⟩)]) (by rw [tA];exact List.length_replicate.symm) x 14 3 3 (W9 fM) hxf (by decide) (by decide) (by decide) (by decide) (by decide) (by decide) (by decide) (by
  rw [show UA (s6 m n b).rows = (iF m n b (UA m.rows).length).map b9 from WB _,eA]
  have:=mN m n b (UA m.rows).length
  have:=fm.rows
  omega)
 have hva:=vadd_R x X 14 16384 (hxf.monoL (by decide)) hXf (by decide) (by decide) (by decide)
 have f2:=feas_V nmE (s6 m n b) (jA (UA (UD n b)).length [.val (.string ⟨#[]⟩)]) (by rw [tA];exact List.length_replicate.symm) (aQ (A8 x X)) 14 3 (3 + 16384 + 1) (W9 fM) (addQ_fits hxf hXf (by decide) (by decide)) (by decide) (by decide) (by decide) (by decide) (by decide) (by decide) (by decide) (by
  rw [show UA (s6 m n b).rows = (iF m n b (UA m.rows).length).map b9 from WB _,eA]
  have:=mN m n b (UA m.rows).length
  have:=fm.rows
  omega)
 have hfin:(kd = 1) \/ (kd = 0 /\ f4 (s6 m n b) x = TA) \/ (kd = 2 /\ f4 (s6 m n b) x = TA) \/ (kd = 2 /\ f4 (s6 m n b) x = SA /\ f4 (s6 m n b) (aQ (A8 x X)) = SA):=by
  rw [X9,X9]
  rcases hkd with ⟨h,_⟩ | ⟨h,hv⟩ | ⟨h,hv,hX⟩
  ·exact .inl h
  ·exact .inr (.inl ⟨h,none_feas rt (by omega) hpv hv x⟩)
  ·cases hf:f4 (GH m n b) x with
   | false=>exact .inr (.inr (.inl ⟨h,rfl⟩))
   | true =>
    refine .inr (.inr (.inr ⟨h,rfl,?_⟩))
    rw [hX]
    exact ray_feas rt (by omega) (by omega) hpv hv hf
 have rtm:=rt_of (by unfold bH at hb;simp only [JA] at hb;exact hb.2.2)
 have hro:=rows9_C m n 3 hn (by have:=fm.vars;omega) fm.names fm.rnames (fun r hr x hx=>(fm.fits.2 r hr).1.2 x hx) (by decide)
 unfold rowsV at hro
 rw [hb,if_pos rfl] at hro
 have hRl:(iK m n).length = (UA m.rows).length:=by unfold iK;rw [eA]
 have hR6:=fm.rows
 have hv8:=fm.vars
 have hat:=at14_C c QA (by decide) (by omega)
 rw [show aC (atQ c (UA QA)) = (QA:VV) from rfl] at hat
 have hrow:∀ i (hi:i < (UA m.rows).length),(UA (UA m.rows)[i].coef).length = (UA m.vars).length:=fun i hi=>by
  have:=(rtm.row i hi).1
  rwa [FD hi] at this
 have hpr:∀ i (hi:i < (UA m.rows).length),YA Tryz.prog 13 [aV (UA m.rows)[i].coef,QL (UD n b)] (.ret (aV (aC (tF (UA m.rows)[i].coef (UA (UD n b)))))):=fun i hi=>by
  have:=at14_C (UA m.rows)[i].coef (UD n b) (by omega) (by rw [hrow i hi];omega)
  rwa [atQ_pick (by rw [hrow i hi];exact hin)] at this
 have hoR:∀ i (hi:i < (UA m.rows).length),b9 (OX m n b i) = ⟨[],aC (tF (UA m.rows)[i].coef (UA (UD n b))),(UA m.rows)[i].rel,(UA m.rows)[i].b⟩:=fun i hi=>by unfold OX b9;rw [FD hi]
 have hoT:∀ i,(iF m n b (i + 1)).map b9 = if (iK m n).getD i (-1) = (b:Int) then (iF m n b i).map b9 ++ [b9 (OX m n b i)] else (iF m n b i).map b9:=fun i=>by
  show List.map b9 (if _ then _ else _) = _
  split <;> simp
 have hoL:∀ i,((iF m n b i).map b9).length <= i:=fun i=>by rw [eA];exact mN m n b i
 have hoZ:(iF m n b 0).map b9 = []:=rfl
 clear hkd hpv ha hoff fP hPr hP6 rt fM
 generalize hFA:f4 (s6 m n b) x = FA at *
 generalize hFB:f4 (s6 m n b) (aQ (A8 x X)) = FB at *
 clear hFA hFB
 unfold s6 at f1 f2
 generalize hOT:(fun i=>(iF m n b i).map b9) = OT at *
 have hOT':∀ i,(iF m n b i).map b9 = OT i:=fun i=>by rw [<- hOT]
 rw [hOT'] at f1 f2 hoZ
 simp only [hOT'] at hoT hoL
 generalize hRv:iK m n = R at *
 generalize hBR:(fun i=>b9 (OX m n b i)) = BR at *
 have hBR':∀ i,b9 (OX m n b i) = BR i:=fun i=>by rw [<- hBR]
 simp only [hBR'] at hoT hoR
 generalize fX (GH m n b) = p at *
 generalize UD n b = vs at *
 refine WA (rs:=[(RV.tmp 10)]) Tryz.func8 (fun a w=>Tryz.call8 a w) V9 cc8 (by kernel_rfl) ?_
 rw [Tryz.ntmps8]
 simp only [pC,nA,nS]
 repeat (first | (with_reducible first | refine W8 ?_ | refine VA rfl ?_) | ((with_reducible refine X8 fun K hK=>?_);simp (disch:=first | omega | simp only [sB];omega) only [qB,reduceIte,reduceCtorEq,iT,nA,nS,nM,iA,iS,iM,iN,fU,hcl'];subst hK) | refine KB (hfm) rfl rfl rfl ?_ | refine UJ (hfc) ?_ | refine UJ (hfx) ?_ | refine KB (hof) rfl rfl rfl ?_ | refine KB (q1) rfl rfl rfl ?_ | refine KB (hat) rfl rfl rfl ?_ | refine KB (hro) rfl rfl rfl ?_)
 refine uD.fgt ?_ (TB.phantom _ 50 6)
 refine uD.fgt ?_ (TB.cellsOpen (b:=4) (els':=[[.c (.sl 1 (jA (UA vs).length [.val (.string ⟨#[]⟩)])),.c (vr QA),.own 5 0]]) rfl (.cons (.cons (.inl rfl) (.cons (.inl rfl) (.cons (.inr ⟨rfl,5,_,rfl,rfl,rfl⟩) .nil))) .nil))
 simp only [rA,qA,lA,mA]
 refine xB (fun (zz:Nat × (List RowM) × Nat × Bool)=>⟨(.junk :: .junk :: aI b :: .junk :: aV x :: .one (.ptr 0 0 0 0) :: .one (.ptr 1 0 0 0) :: J4 (.one (.ptr 2 0 0 0) :: .junk :: .one (.ptr 3 0 0 0) :: .junk :: .junk :: .one (.ptr 4 1 0 0) :: K8 (L8 (J4 (.junk :: .junk :: QL (aC R) :: aI R.length :: aI zz.1 :: K8 (K8 (.junk :: []))))))),[⟨0,26,3,[[.c (jB 1 fW m.vars),.c (vr m.cost),.c (jB 6 DD m.rows)]],SA,SA⟩,⟨0,29,1,[[.c (jB 1 fIs n)]],SA,SA⟩,⟨0,37,4,[[.c (jB 1 fM p.A),.c (vr p.B),.c (vr p.C),.c (jB 1 fI vs)]],SA,SA⟩,⟨0,56,5,[[.c (.val (.int .i64 kd)),.c (vr X),.c (.val (.bool c0.minus)),.c (nr c0.size),.c (nr c0.den)]],SA,SA⟩,⟨1,26,3,[[.c (.sl 1 (jA (UA vs).length [.val (.string ⟨#[]⟩)])),.c (vr QA),.own 5 zz.2.2.1]],SA,SA⟩,⟨zz.2.2.1,50,6,wB (fRw nmE) zz.2.1,SA,zz.2.2.2⟩]⟩) (fun (zz:Nat × (List RowM) × Nat × Bool)=>zz.1 <= R.length /\ zz.2.1 = OT zz.1 /\ zz.2.2.2 = !zz.2.1.isEmpty) (fun (zz:Nat × (List RowM) × Nat × Bool)=>R.length - zz.1) (0,[],0,TA) ?hI1 (TB.head (fN 6) (TA :: TA :: SA :: TA :: SA :: SA :: SA :: F4 (SA :: TA :: SA :: TA :: TA :: SA :: M8 (F16 (F4 (TA :: TA :: SA :: SA :: SA :: []))))) ?hT1 ?hH1) ?hB1
 case hT1 | hH1=>first | (simp (disch:=omega) only [pD,IB,lB,XA,clean1,JB,reduceIte,iS,iA,iN,CE,kV];done) | rfl
 ·dsimp only;exact ⟨fN _,hoZ.symm,rfl⟩
 rintro ⟨i,rws,u,y⟩ ⟨hi,ho,hy⟩
 dsimp only at hi ho hy
 by_cases him:i = R.length
 case neg =>
  have hlt:i < R.length:=by omega
  have hlm:i < (UA m.rows).length:=by omega
  have hlo:i < (UA (aC R)).length:=by rw [kV];exact hlt
  have hge:∀ h:i < (UA (aC R)).length,(UA (aC R))[i] = R[i]:=fun h=>List.getElem_of_eq (WB R) h
  have hgd:R.getD i (-1) = R[i]:=by rw [bA,aA hlt];rfl
  have hos:=hoT i
  rw [hgd] at hos
  have hpi:=hpr i hlm
  have hoi:=hoR i hlm
  have hol:=hoL i
  rw [<- ho] at hol hos
  by_cases he:R[i] = (b:Int)
  ·rw [if_pos he,hoi] at hos
   have hsn:wB (fRw nmE) rws ++ [[Cell.c (.val (.string ⟨#[]⟩)),.c (vr (aC (tF (UA m.rows)[i].coef (UA vs)))),.c (.val (.int .i64 (UA m.rows)[i].rel)),.c (.val (.bool (UA m.rows)[i].b.minus)),.c (nr (UA m.rows)[i].b.size),.c (nr (UA m.rows)[i].b.den)]] = wB (fRw nmE) (rws ++ [⟨[],aC (tF (UA m.rows)[i].coef (UA vs)),(UA m.rows)[i].rel,(UA m.rows)[i].b⟩]):=by rw [<- XC];rfl
   repeat (first | (with_reducible first | refine W8 ?_ | refine VA rfl ?_) | ((with_reducible refine X8 fun K hK=>?_);simp (disch:=first | omega | simp only [sB];omega) only [qB,reduceIte,reduceCtorEq,iT,nA,nS,nM,iA,iS,iM,iN,fU,DD,fI,hge,he,hsn];subst hK) | refine KB (hpi) rfl rfl rfl ?_)
   refine ⟨(i + 1,rws ++ [⟨[],aC (tF (UA m.rows)[i].coef (UA vs)),(UA m.rows)[i].rel,(UA m.rows)[i].b⟩],u + 1,SA),?hI2,?hM2,TB.head (fN 6) (TA :: TA :: SA :: TA :: SA :: SA :: SA :: F4 (SA :: TA :: SA :: TA :: TA :: SA :: M8 (F16 (F4 (TA :: TA :: SA :: SA :: SA :: []))))) ?hT2 ?hH2⟩
   case hT2 | hH2=>first | (simp (disch:=omega) only [pD,IB,lB,XA,clean1,JB,reduceIte,iS,iA,iN,kA,KA,LA];done) | rfl
   ·dsimp only;exact ⟨by omega,hos.symm,by cases rws <;> rfl⟩
   ·dsimp only;omega
  ·rw [if_neg he] at hos
   repeat (first | (with_reducible first | refine W8 ?_ | refine VA rfl ?_) | ((with_reducible refine X8 fun K hK=>?_);simp (disch:=first | omega | simp only [sB];omega) only [qB,reduceIte,reduceCtorEq,iT,nA,nS,nM,iA,iS,iM,iN,fU,DD,fI,hge,he];subst hK))
   refine ⟨(i + 1,rws,u,y),?hI3,?hM3,TB.headP (fN 6) (TA :: TA :: SA :: TA :: SA :: SA :: SA :: F4 (SA :: TA :: SA :: TA :: TA :: SA :: M8 (F16 (F4 (TA :: TA :: SA :: SA :: SA :: [])))))⟩
   ·dsimp only;exact ⟨by omega,hos.symm,hy⟩
   ·dsimp only;omega
 rw [him,hRl] at ho
 rw [<- ho] at f1 f2
 refine uD.fgt ?_ (TB.cells (b:=4) (els':=[[.c (.sl 1 (jA (UA vs).length [.val (.string ⟨#[]⟩)])),.c (vr QA),.c (jB 6 (fRw nmE) (aC rws))]]) [5] rfl rfl (.cons (.cons (.inl rfl) (.cons (.inl rfl) (.cons ((JG (c:=5) rfl (by decide) hy (by simp)).2 0 _ _ rfl rfl) .nil))) .nil))
 rw [oC]
 simp only [lA,mA,YH,nB,nA,IA,if_true,if_false,reduceIte]
 rcases hfin with rfl | ⟨rfl,rfl⟩ | ⟨rfl,rfl⟩ | ⟨rfl,rfl,rfl⟩
 ·repeat (first | (with_reducible first | refine W8 ?_ | refine VA rfl ?_) | ((with_reducible refine X8 fun K hK=>?_);simp (disch:=first | omega | simp only [sB];omega) only [qB,reduceIte,reduceCtorEq,iT,nA,nS,nM,iA,iS,iM,iN,fU,him];subst hK) | refine KB (haw) rfl rfl rfl ?_)
  exact ⟨_,rfl,rfl⟩
 ·repeat (first | (with_reducible first | refine W8 ?_ | refine VA rfl ?_) | ((with_reducible refine X8 fun K hK=>?_);simp (disch:=first | omega | simp only [sB];omega) only [qB,reduceIte,reduceCtorEq,iT,nA,nS,nM,iA,iS,iM,iN,fU,him];subst hK) | refine UJ (f1) ?_ | refine KB (haw) rfl rfl rfl ?_)
  exact ⟨_,rfl,rfl⟩
 ·repeat (first | (with_reducible first | refine W8 ?_ | refine VA rfl ?_) | ((with_reducible refine X8 fun K hK=>?_);simp (disch:=first | omega | simp only [sB];omega) only [qB,reduceIte,reduceCtorEq,iT,nA,nS,nM,iA,iS,iM,iN,fU,him];subst hK) | refine UJ (f1) ?_ | refine KB (haw) rfl rfl rfl ?_)
  exact ⟨_,rfl,rfl⟩
 ·repeat (first | (with_reducible first | refine W8 ?_ | refine VA rfl ?_) | ((with_reducible refine X8 fun K hK=>?_);simp (disch:=first | omega | simp only [sB];omega) only [qB,reduceIte,reduceCtorEq,iT,nA,nS,nM,iA,iS,iM,iN,fU,him];subst hK) | refine UJ (f1) ?_ | refine KB (hva) rfl rfl rfl ?_ | refine KB (f2) rfl rfl rfl ?_ | refine UJ (haw) ?_)
  exact ⟨_,rfl,rfl⟩
end Go.Proofs.YtncgbjhojbnecaaGreat
