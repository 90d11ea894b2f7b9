/- Plain: two proved answers to one problem say the same. -/
import Derived.Test.YtncgbjhojbnecaaB0
import Derived.Test.YtncgbjhojbnecaaSC
import Derived.Test.YtncgbjhojbnecaaSV
set_option linter.unusedSimpArgs false
set_option linter.unusedVariables false
set_option linter.unnecessarySimpa false
namespace Go.Off
theorem dual_sum (P:PF) (y x:List Rat):sumR P.n (fun k=>colY P y k * lF x k) = sumR P.m (fun i=>lF y i * rowX P x i):=by
 have e1:∀ k,k < P.n -> colY P y k * lF x k = sumR P.m (fun i=>lF y i * P.a i k * lF x k):=fun k _=>by
  unfold colY;rw [sumR_mul]
 rw [sumR_congr e1,sumR_comm]
 refine sumR_congr (fun i _=>?_)
 unfold rowX
 rw [<- sumR_mull]
 exact sumR_congr (fun k _=>by rw [Rat.mul_assoc])
theorem sumR_le' {n:Nat} {f g:Nat -> Rat} (h:∀ i,i < n -> f i <= g i):sumR n f <= sumR n g:=by
 have:=sumR_nn' (f:=fun i=>g i - f i) (fun i hi=>by have:=h i hi;grind)
 rw [sumR_sub] at this
 grind
theorem weak {P:PF} {y x:List Rat} (hy:∀ k,k < P.n -> colY P y k <= P.c k) (hx:Feas P x):ybP P y <= cxP P x:=by
 have h1:sumR P.n (fun k=>colY P y k * lF x k) <= cxP P x:=sumR_le' (fun k hk=>Rat.mul_le_mul_of_nonneg_right (hy k hk) (hx.2.1 k hk))
 rw [dual_sum] at h1
 have e:sumR P.m (fun i=>lF y i * rowX P x i) = ybP P y:=sumR_congr (fun i hi=>by rw [hx.2.2 i hi])
 rw [e] at h1
 exact h1
theorem prov_le {P:PF} {r:SR} (h:Prov P r) (hv:r.v = 1) {x:List Rat} (hx:Feas P x):cxP P r.X <= cxP P x:=by
 rcases h with ⟨_,_,_,h4,h5,_⟩ | ⟨h1,_⟩ | ⟨h1,_⟩
 ·rw [<- h5];exact weak h4 hx
 ·omega
 ·omega
theorem prov_no {P:PF} {r:SR} (h:Prov P r) (hv:r.v = 2) {x:List Rat} (hx:Feas P x):False:=by
 rcases h with ⟨h1,_⟩ | ⟨_,_,_,_,h4,h5⟩ | ⟨h1,_⟩
 ·omega
 ·have h6:sumR P.n (fun k=>colY P r.Y k * lF x k) <= 0:=sumR_np (fun k hk=>by
   have:=mul_np (hx.2.1 k hk) (h4 k hk)
   rw [Rat.mul_comm];exact this)
  rw [dual_sum] at h6
  have e:sumR P.m (fun i=>lF r.Y i * rowX P x i) = ybP P r.Y:=sumR_congr (fun i hi=>by rw [hx.2.2 i hi])
  rw [e] at h6
  exact absurd h5 (Rat.not_lt.2 h6)
 ·omega
theorem prov_feas {P:PF} {r:SR} (h:Prov P r) (hv:r.v ≠ 2):Feas P r.X:=by
 rcases h with ⟨_,h2,_⟩ | ⟨h1,_⟩ | ⟨_,_,h2,_⟩
 ·exact h2
 ·exact absurd h1 hv
 ·exact h2
theorem prov_v {P:PF} {r:SR} (h:Prov P r):r.v = 1 \/ r.v = 2 \/ r.v = 3:=by
 rcases h with ⟨h1,_⟩ | ⟨h1,_⟩ | ⟨h1,_⟩
 ·exact .inl h1
 ·exact .inr (.inl h1)
 ·exact .inr (.inr h1)
def alongL (n:Nat) (x ray:List Rat) (t:Rat):List Rat:=(List.range n).map fun k=>lF x k + lF ray k * t
theorem along_at {n k:Nat} (hk:k < n) (x ray:List Rat) (t:Rat):lF (alongL n x ray t) k = lF x k + lF ray k * t:=getD_mapR n _ k 0 hk
theorem along_feas {P:PF} {x ray:List Rat} {t:Rat} (hx:Feas P x) (h1:∀ k,k < P.n -> 0 <= lF ray k) (h2:∀ i,i < P.m -> rowX P ray i = 0) (ht:0 <= t):Feas P (alongL P.n x ray t):=by
 refine ⟨by unfold alongL;rw [List.length_map,List.length_range],fun k hk=>?_,fun i hi=>?_⟩
 ·rw [along_at hk]
  have:=Rat.mul_nonneg (h1 k hk) ht
  have:=hx.2.1 k hk
  grind
 ·rw [<- hx.2.2 i hi]
  have e:rowX P (alongL P.n x ray t) i = rowX P x i + rowX P ray i * t:=by
   unfold rowX
   rw [<- sumR_lin]
   exact sumR_congr (fun k hk=>by rw [along_at hk];grind)
  rw [e,h2 i hi,Rat.zero_mul,Rat.add_zero]
theorem along_cost {P:PF} (x ray:List Rat) (t:Rat):cxP P (alongL P.n x ray t) = cxP P x + cxP P ray * t:=by
 unfold cxP
 rw [<- sumR_lin]
 exact sumR_congr (fun k hk=>by rw [along_at hk];grind)
theorem prov_not13 {P:PF} {r s:SR} (h:Prov P r) (g:Prov P s) (hr:r.v = 1) (hs:s.v = 3):False:=by
 rcases g with ⟨g1,_⟩ | ⟨g1,_⟩ | ⟨_,_,g3,g4,g5,g6,g7⟩
 ·omega
 ·omega
 ·obtain ⟨q,hq⟩:∃ q,q = -(cxP P s.Ray):=⟨_,rfl⟩
  have q0:0 < q:=by grind
  have l0:=prov_le h hr g3
  have t0:0 <= (cxP P s.X - cxP P r.X + 1) * q⁻¹:=Rat.mul_nonneg (by grind) (Rat.le_of_lt (inv_pos q0))
  have h1:=prov_le h hr (along_feas g3 g5 g6 t0)
  rw [along_cost] at h1
  have e:q * q⁻¹ = 1:=Rat.mul_inv_cancel _ (fun e=>by rw [e] at q0;exact absurd q0 (by decide))
  have e2:cxP P s.Ray = -q:=by grind
  rw [e2] at h1
  have e3 : -q * ((cxP P s.X - cxP P r.X + 1) * q⁻¹) = -(cxP P s.X - cxP P r.X + 1):=by grind
  rw [e3] at h1
  grind
theorem prov_same {P:PF} {r s:SR} (h:Prov P r) (g:Prov P s):r.v = s.v /\ (r.v = 1 -> cxP P r.X = cxP P s.X):=by
 have key:∀ {r s:SR},Prov P r -> Prov P s -> r.v = 1 -> s.v = 1:=fun {r s} h g hr=>by
  rcases prov_v g with hs | hs | hs
  ·exact hs
  ·exact (prov_no g hs (prov_feas h (by omega))).elim
  ·exact (prov_not13 h g hr hs).elim
 have hv:r.v = s.v:=by
  rcases prov_v h with hr | hr | hr
  ·rw [hr,key h g hr]
  ·rcases prov_v g with hs | hs | hs
   ·exact absurd (key g h hs) (by omega)
   ·omega
   ·exact (prov_no h hr (prov_feas g (by omega))).elim
  ·rcases prov_v g with hs | hs | hs
   ·exact absurd (key g h hs) (by omega)
   ·exact (prov_no g hs (prov_feas h (by omega))).elim
   ·omega
 refine ⟨hv,fun hr=>?_⟩
 have h1:=prov_le h hr (prov_feas g (by omega))
 have h2:=prov_le g (by omega) (prov_feas h (by omega))
 exact Rat.le_antisymm h1 h2
theorem prov_twice {P Q:PF} {q:Rat} (h0:0 < q) (hm:Q.m = P.m) (hn:Q.n = P.n) (ha:∀ i k,i < P.m -> k < P.n -> Q.a i k = P.a i k * q) (hb:∀ i,i < P.m -> Q.b i = P.b i * q) (hc:∀ k,k < P.n -> Q.c k = P.c k * q) {s:SR} (h:Prov Q s) :
  Prov P s /\ ∀ x,cxP Q x = cxP P x * q:=by
 have c1:∀ y k,k < P.n -> colY Q y k = colY P y k * q:=fun y k hk=>by
  unfold colY;rw [hm,<- sumR_mul];exact sumR_congr (fun i hi=>by rw [ha i k hi hk];grind)
 have c2:∀ x i,i < P.m -> rowX Q x i = rowX P x i * q:=fun x i hi=>by
  unfold rowX;rw [hn,<- sumR_mul];exact sumR_congr (fun k hk=>by rw [ha i k hi hk];grind)
 have c3:∀ y,ybP Q y = ybP P y * q:=fun y=>by
  unfold ybP;rw [hm,<- sumR_mul];exact sumR_congr (fun i hi=>by rw [hb i hi];grind)
 have c4:∀ x,cxP Q x = cxP P x * q:=fun x=>by
  unfold cxP;rw [hn,<- sumR_mul];exact sumR_congr (fun k hk=>by rw [hc k hk];grind)
 have e:q * q⁻¹ = 1:=Rat.mul_inv_cancel _ (fun e=>by rw [e] at h0;exact absurd h0 (by decide))
 have can:∀ {a b:Rat},a * q = b * q -> a = b:=fun {a b} h=>by
  have h2:a * q * q⁻¹ = b * q * q⁻¹:=by rw [h]
  grind
 have i0:=inv_pos h0
 have canl:∀ {a b:Rat},a * q <= b * q -> a <= b:=fun {a b} h=>by
  have h2:=Rat.mul_le_mul_of_nonneg_right h (Rat.le_of_lt i0)
  have e1:a * q * q⁻¹ = a:=by grind
  have e2:b * q * q⁻¹ = b:=by grind
  rw [e1,e2] at h2
  exact h2
 have canp:∀ {a:Rat},0 < a * q -> 0 < a:=fun {a} h=>Rat.not_le.1 (fun hn=>by
  have:=mul_np (Rat.le_of_lt h0) hn
  rw [Rat.mul_comm] at this
  exact absurd h (Rat.not_lt.2 this))
 have cann:∀ {a:Rat},a * q < 0 -> a < 0:=fun {a} h=>Rat.not_le.1 (fun hn=>by
  have:=Rat.mul_nonneg hn (Rat.le_of_lt h0)
  exact absurd h (Rat.not_lt.2 this))
 have hf:∀ {x},Feas Q x -> Feas P x:=fun {x} hx=>⟨by rw [<- hn];exact hx.1,fun k hk=>hx.2.1 k (by omega),fun i hi=>can (by rw [<- c2 x i hi,<- hb i hi];exact hx.2.2 i (by omega))⟩
 refine ⟨?_,c4⟩
 rcases h with ⟨h1,h2,h3,h4,h5,h6⟩ | ⟨h1,h2,h3,h4,h5,h6⟩ | ⟨h1,h2,h3,h4,h5,h6,h7⟩
 ·exact .inl ⟨h1,hf h2,by omega,fun k hk=>canl (by rw [<- c1 _ k hk,<- hc k hk];exact h4 k (by omega)),can (by rw [<- c3,<- c4];exact h5),h6⟩
 ·exact .inr (.inl ⟨h1,h2,h3,by omega,fun k hk=>canl (by rw [<- c1 _ k hk,Rat.zero_mul];exact h5 k (by omega)),canp (by rw [<- c3];exact h6)⟩)
 ·exact .inr (.inr ⟨h1,h2,hf h3,by omega,fun k hk=>h5 k (by omega),fun i hi=>can (by rw [<- c2 _ i hi,Rat.zero_mul];exact h6 i (by omega)),cann (by rw [<- c4];exact h7)⟩)
end Go.Off
set_option maxRecDepth 100000
set_option maxHeartbeats 4000000
namespace Go.Proofs.Ytncgbjhojbnecaa
open Go Go.Am Go.Proofs Go.RowKit Go.Off
open Nat renaming reduceAdd -> nA,reduceSub -> nS,reduceMul -> nM,reduceBEq -> nB
open Int renaming reduceToNat -> iT,reduceAdd -> iA,reduceSub -> iS,reduceMul -> iM,reduceNeg -> iN
theorem does1_K (r:RR) (L:Nat) (h:Fits r L) (hL:L <= 1000000000):PureC Try.prog 61 [aR r] (.ret (aB (belowB r))):=by
 have hs:=rsign_C r (h.mono (by omega))
 rw [<- sgn_below]
 generalize sgn r.top = s at *
 refine pureC_of (rs:=[(RV.tmp 2)]) Try.func61 (fun a w=>Try.call61 a w) body61 cc61 (by kernel_rfl) ?_
 rw [Try.ntmps61]
 simp only [frs,nA,nS]
 repeat (first | (with_reducible first | refine Way.imp ?_ | refine blk_o rfl ?_) | ((with_reducible refine WayR.imp (fun K hK=>?_));simp (disch:=first | omega | (simp only [dls];omega)) only [std,reduceIte,reduceCtorEq,iT,nA,nS,nM,iA,iS,iM,iN,fU];subst hK) | refine zcA (hs) rfl rfl rfl ?_)
 exact ⟨_,rfl,rfl⟩
theorem does_K (p:PB) (x:VV) (n L K:Nat) (hp:FitsP p n L) (hx:FitsV x n K) (hn:n <= 1000) (hL:1 <= L) (hK:1 <= K) (hL2:L <= 8000000) (hK2:K <= 8000000) (hLK:L + K <= 8000000) (hN:n * (L + K + 1) <= 8990000):PureC Try.prog 26 [aP p,aV x] (.ret (aB (doesB p x))):=by
 have hr:=sright_C p
 have hx1:=hx.1
 have hA1:=hp.1.1
 have hB1:=hp.2.1.1
 unfold doesB
 cases c1:rightB p with
 | false =>
  rw [c1] at hr
  refine pureC_of (rs:=[(RV.tmp 4)]) Try.func26 (fun a w=>Try.call26 a w) body26 cc26 (by kernel_rfl) ?_
  rw [Try.ntmps26]
  simp only [frs,nA,nS]
  repeat (first | (with_reducible first | refine Way.imp ?_ | refine blk_o rfl ?_) | ((with_reducible refine WayR.imp (fun K hK=>?_));simp (disch:=first | omega | (simp only [dls];omega)) only [std,reduceIte,reduceCtorEq,iT,nA,nS,nM,iA,iS,iM,iN,fU];subst hK) | refine zcA (hr) rfl rfl rfl ?_)
  exact ⟨_,rfl,rfl⟩
 | true =>
  have c1':=c1
  rw [c1] at hr
  rw [Bool.true_and]
  unfold rightB at c1'
  simp only [Bool.and_eq_true,decide_eq_true_eq] at c1'
  have hBA:=c1'.2.2.1
  by_cases c2:(osl x).length = (osl p.C).length
  case neg =>
   rw [decide_eq_false c2,Bool.false_and]
   refine pureC_of (rs:=[(RV.tmp 4)]) Try.func26 (fun a w=>Try.call26 a w) body26 cc26 (by kernel_rfl) ?_
   rw [Try.ntmps26]
   simp only [frs,nA,nS]
   repeat (first | (with_reducible first | refine Way.imp ?_ | refine blk_o rfl ?_) | ((with_reducible refine WayR.imp (fun K hK=>?_));simp (disch:=first | omega | (simp only [dls];omega)) only [std,reduceIte,reduceCtorEq,iT,nA,nS,nM,iA,iS,iM,iN,fU];subst hK) | refine zcA (hr) rfl rfl rfl ?_)
   exact ⟨_,rfl,rfl⟩
  have hc:=conR_C x 61 belowB (by omega) (fun r hr=>does1_K r K (hx.2 r hr) (by omega))
  rw [decide_eq_true c2,Bool.true_and]
  cases c3:anyI (pAt belowB x) (osl x).length with
  | true =>
   rw [c3] at hc
   refine pureC_of (rs:=[(RV.tmp 4)]) Try.func26 (fun a w=>Try.call26 a w) body26 cc26 (by kernel_rfl) ?_
   rw [Try.ntmps26]
   simp only [frs,nA,nS]
   repeat (first | (with_reducible first | refine Way.imp ?_ | refine blk_o rfl ?_) | ((with_reducible refine WayR.imp (fun K hK=>?_));simp (disch:=first | omega | (simp only [dls];omega)) only [std,reduceIte,reduceCtorEq,iT,nA,nS,nM,iA,iS,iM,iN,fU,c2];subst hK) | refine zcA (hr) rfl rfl rfl ?_ | (apply call_any_g (hc) rfl;(case hg=>simp (disch:=first | omega | (simp only [dls];omega)) only [std,reduceIte,reduceCtorEq,iT,nA,nS,nM,iA,iS,iM,iN,fU,c2]);(case hcl=>(simp only [evs,St.ev,constAV,evl];(repeat (first | exact closeAVs_nil | (apply closeAVs_cons;(first | (refine close_own3 rfl (by decide)) | (refine close_ownO rfl (by decide) ?_;assumption) | rfl))));done));(case hu=>rfl)))
   exact ⟨_,rfl,rfl⟩
  | false =>
   rw [c3] at hc
   rw [Bool.not_false,Bool.true_and]
   refine pureC_of (rs:=[(RV.tmp 4)]) Try.func26 (fun a w=>Try.call26 a w) body26 cc26 (by kernel_rfl) ?_
   rw [Try.ntmps26]
   simp only [frs,nA,nS]
   repeat (first | (with_reducible first | refine Way.imp ?_ | refine blk_o rfl ?_) | ((with_reducible refine WayR.imp (fun K hK=>?_));simp (disch:=first | omega | (simp only [dls];omega)) only [std,reduceIte,reduceCtorEq,iT,nA,nS,nM,iA,iS,iM,iN,fU,c2];subst hK) | refine zcA (hr) rfl rfl rfl ?_ | (apply call_any_g (hc) rfl;(case hg=>simp (disch:=first | omega | (simp only [dls];omega)) only [std,reduceIte,reduceCtorEq,iT,nA,nS,nM,iA,iS,iM,iN,fU,c2]);(case hcl=>(simp only [evs,St.ev,constAV,evl];(repeat (first | exact closeAVs_nil | (apply closeAVs_cons;(first | (refine close_own3 rfl (by decide)) | (refine close_ownO rfl (by decide) ?_;assumption) | rfl))));done));(case hu=>rfl)))
   refine awp_loop (fun (zz:Nat)=>⟨(.junk :: aV x :: .one (.ptr 0 0 0 0) :: .junk :: .junk :: .junk :: .junk :: .junk :: .junk :: .junk :: .junk :: .junk :: .junk :: .junk :: .junk :: .junk :: .junk :: .junk :: .junk :: .junk :: .junk :: .junk :: .junk :: .junk :: .junk :: aM p.A :: aI (osl p.A).length :: aI zz :: .junk :: .junk :: .junk :: .junk :: .junk :: .junk :: .junk :: .junk :: .junk :: .junk :: .junk :: .junk :: .junk :: .junk :: .junk :: []),[⟨0,25,3,[[.c (encSl 1 fM p.A),.c (vr p.B),.c (vr p.C)]],true,true⟩]⟩) (fun (zz:Nat)=>zz <= (osl p.A).length /\ doesTo p x zz = true) (fun (zz:Nat)=>(osl p.A).length - zz) (0) ?hI1 (Fgt.head (Nat.zero_le 1) [false,true,true,false,false,false,false,false,false,false,false,false,false,false,false,false,false,false,false,false,false,false,false,false,false,true,true,true] ?hT1 ?hH1) ?hB1
   case hT1=>first | (simp (disch:=omega) only [hds,liveT,cleanAV,cleanCell,clean1,cleanBlk,reduceIte,iS,iA,iN];done) | rfl
   case hH1=>first | (simp (disch:=omega) only [hds,liveT,cleanAV,cleanCell,clean1,cleanBlk,reduceIte,iS,iA,iN];done) | rfl
   ·exact ⟨Nat.zero_le _,rfl⟩
   rintro i ⟨hi,hs⟩
   by_cases him:i = (osl p.A).length
   ·rw [<- him,hs]
    repeat (first | (with_reducible first | refine Way.imp ?_ | refine blk_o rfl ?_) | ((with_reducible refine WayR.imp (fun K hK=>?_));simp (disch:=first | omega | (simp only [dls];omega)) only [std,reduceIte,reduceCtorEq,iT,nA,nS,nM,iA,iS,iM,iN,fU];subst hK))
    exact ⟨_,rfl,rfl⟩
   ·have hlt:i < (osl p.A).length:=by omega
    have hltB:i < (osl p.B).length:=by omega
    have hrf:=hp.1.2 _ (List.getElem_mem hlt)
    have hd:=dot_W (osl p.A)[i] x n L K hrf hx hn hL hK hL2 hK2 hLK hN
    have hfd:=fits_dotW hrf hx hL hK
    have hfb:=hp.2.1.2 _ (List.getElem_mem hltB)
    have hcm:=rcompare_C (rawQ (dotV (osl p.A)[i] x)) (osl p.B)[i] ((fits_rawQ hfd).mono (by omega)) (hfb.mono (by omega))
    rw [rawQ_val] at hcm
    have hqb:qAt p.B i = (osl p.B)[i].val:=by unfold qAt;rw [rAt_in hltB]
    by_cases he:dotV (osl p.A)[i] x = (osl p.B)[i].val
    ·rw [he,cmp_eq] at hcm
     rw [he] at hd
     repeat (first | (with_reducible first | refine Way.imp ?_ | refine blk_o rfl ?_) | ((with_reducible refine WayR.imp (fun K hK=>?_));simp (disch:=first | omega | (simp only [dls];omega)) only [std,reduceIte,reduceCtorEq,iT,nA,nS,nM,iA,iS,iM,iN,fU,fM,fR];subst hK) | refine zcA (hd) rfl rfl rfl ?_ | refine zcA (hcm) rfl rfl rfl ?_)
     refine ⟨(i + 1),?hI2,?hM2,Fgt.head (Nat.zero_le 1) [false,true,true,false,false,false,false,false,false,false,false,false,false,false,false,false,false,false,false,false,false,false,false,false,false,true,true,true] ?hT2 ?hH2⟩
     case hT2=>first | (simp (disch:=omega) only [hds,liveT,cleanAV,cleanCell,clean1,cleanBlk,reduceIte,iS,iA,iN];done) | rfl
     case hH2=>first | (simp (disch:=omega) only [hds,liveT,cleanAV,cleanCell,clean1,cleanBlk,reduceIte,iS,iA,iN];done) | rfl
     ·exact ⟨Nat.succ_le_of_lt hlt,by rw [doesTo_succ,hs,mAt_in hlt,hqb,he];simp⟩
     ·show (osl p.A).length - (i + 1) < (osl p.A).length - i;omega
    ·have hne:=cmpQ_ne he
     rw [doesTo_false hlt (by rw [mAt_in hlt,hqb];exact he)]
     generalize cmpQ (dotV (osl p.A)[i] x) (osl p.B)[i].val = z at *
     repeat (first | (with_reducible first | refine Way.imp ?_ | refine blk_o rfl ?_) | ((with_reducible refine WayR.imp (fun K hK=>?_));simp (disch:=first | omega | (simp only [dls];omega)) only [std,reduceIte,reduceCtorEq,iT,nA,nS,nM,iA,iS,iM,iN,fU,fM,fR];subst hK) | refine zcA (hd) rfl rfl rfl ?_ | refine zcA (hcm) rfl rfl rfl ?_)
     exact ⟨_,rfl,rfl⟩
theorem does_feasV {p:PB} {x:VV} (h:doesB p x = true):Feas (pfOf p) (valsV x):=by
 unfold doesB at h
 simp only [Bool.and_eq_true,Bool.not_eq_true',decide_eq_true_eq] at h
 obtain ⟨hr,hl,h1,h2⟩:=h
 refine ⟨by rw [vals_len];exact hl,fun k hk=>?_,fun i hi=>?_⟩
 ·have hk':k < (osl p.C).length:=hk
  have:=anyI_false h1 (show k < (osl x).length by omega)
  have e:pAt belowB x k = decide (qAt x k < 0):=rfl
  rw [e,decide_eq_false_iff_not,Rat.not_lt] at this
  show 0 <= (valsV x).getD k 0
  rw [vals_at]
  exact this
 ·have hi':i < (osl p.A).length:=hi
  obtain ⟨_,_,_,l4⟩:=right_len hr
  unfold doesTo at h2
  have:=List.all_eq_true.1 h2 i (List.mem_range.2 hi')
  rw [decide_eq_true_eq,dot_sum] at this
  unfold vmin at this
  rw [mAt_in hi',l4 i hi',hl,Nat.min_self,<- mAt_in hi'] at this
  refine Eq.trans (sumR_congr (fun k _=>?_)) this
  show qAt (mAt p.A i) k * (valsV x).getD k 0 = _
  rw [vals_at]
theorem cx_dot4 {p:PB} {x:List Rat} (hx:x.length = (osl p.C).length):dotV p.C (rowV x) = cxP (pfOf p) x:=by
 rw [dot_sum]
 unfold vmin
 rw [len_rowV,hx,Nat.min_self]
 exact sumR_congr (fun i _=>by rw [qAt_rowV];rfl)
theorem cx_dotV {p:PB} {x:VV} (hx:(osl x).length = (osl p.C).length):dotV p.C x = cxP (pfOf p) (valsV x):=by
 rw [dot_sum]
 unfold vmin
 rw [hx,Nat.min_self]
 refine sumR_congr (fun i _=>?_)
 show _ = qAt p.C i * (valsV x).getD i 0
 rw [vals_at]
abbrev c7:CC:=(.seq (.reg [⟨some 2,none,.box 25 (.tmp 0)⟩,⟨some 4,none,.mv (.const (.bool false))⟩]) (.seq (.seq (.reg [⟨some 7,none,.load 3 true (.tmp 2)⟩,⟨some 8,none,.callf (.func 10) [(.tmp 7)]⟩,⟨some 9,none,.un .not (.tmp 8)⟩,⟨some 10,none,.mv (.tmp 9)⟩,⟨some 11,(some (10,false)),.load 3 true (.tmp 2)⟩,⟨some 12,(some (10,false)),.callf (.func 11) [(.tmp 11)]⟩,⟨some 13,(some (10,false)),.un .not (.tmp 12)⟩,⟨some 14,none,.pick (.tmp 10) (.const (.bool true)) (.tmp 13)⟩,⟨some 15,none,.mv (.tmp 14)⟩,⟨some 16,(some (15,false)),.mv (.tmp 1)⟩,⟨some 17,(some (15,false)),.len false (.tmp 16)⟩,⟨some 18,(some (15,false)),.bin .gtr (.tmp 17) (.const (.int .i64 (8)))⟩,⟨some 19,none,.pick (.tmp 15) (.const (.bool true)) (.tmp 18)⟩,⟨some 20,none,.mv (.tmp 19)⟩,⟨some 21,(some (20,false)),.load 3 true (.tmp 2)⟩,⟨some 22,(some (20,false)),.mv (.tmp 1)⟩,⟨some 23,(some (20,false)),.callf (.func 26) [(.tmp 21),(.tmp 22)]⟩,⟨some 24,(some (20,false)),.un .not (.tmp 23)⟩,⟨some 25,none,.pick (.tmp 20) (.const (.bool true)) (.tmp 24)⟩]) (.cond (.tmp 25) (.seq (.reg [⟨some 26,none,.callf (.func 12) []⟩,⟨some 4,none,.mv (.tmp 26)⟩]) .ret) .skip)) (.seq (.reg [⟨some 28,none,.load 3 true (.tmp 2)⟩,⟨some 29,none,.callf (.func 13) [(.tmp 28),(.const (.int .i64 (65536)))]⟩,⟨some 27,none,.mv (.tmp 29)⟩,⟨some 30,none,.ext (.tmp 27) 0⟩,⟨some 31,none,.ext (.tmp 27) 1⟩,⟨some 5,none,.new 30 [(.int .i64 (0)),(.slice none 0 0),(.slice none 0 0),(.slice none 0 0),(.slice none 0 0),(.int .i64 (0))]⟩,⟨none,none,.store 6 (.tmp 5) (.tmp 30)⟩,⟨some 6,none,.mv (.tmp 31)⟩]) (.seq (.seq (.reg [⟨some 32,none,.mv (.tmp 6)⟩,⟨some 33,none,.bin .neq (.tmp 32) (.const (.int .i64 (0)))⟩,⟨some 34,none,.mv (.tmp 33)⟩,⟨some 35,(some (34,false)),.faddr 0 (.tmp 5)⟩,⟨some 36,(some (34,false)),.load 1 false (.tmp 35)⟩,⟨some 37,(some (34,false)),.bin .eql (.tmp 36) (.const (.int .i64 (2)))⟩,⟨some 38,none,.pick (.tmp 34) (.const (.bool true)) (.tmp 37)⟩]) (.cond (.tmp 38) (.seq (.reg [⟨some 4,none,.mv (.const (.bool false))⟩]) .ret) .skip)) (.seq (.reg [⟨some 39,none,.faddr 0 (.tmp 5)⟩,⟨some 40,none,.load 1 false (.tmp 39)⟩,⟨some 41,none,.bin .neq (.tmp 40) (.const (.int .i64 (1)))⟩,⟨some 42,none,.mv (.tmp 41)⟩,⟨some 43,(some (42,false)),.faddr 2 (.tmp 2)⟩,⟨some 44,(some (42,false)),.load 1 false (.tmp 43)⟩,⟨some 45,(some (42,false)),.faddr 1 (.tmp 5)⟩,⟨some 46,(some (42,false)),.load 1 false (.tmp 45)⟩,⟨some 47,(some (42,false)),.callf (.func 18) [(.tmp 44),(.tmp 46)]⟩,⟨some 48,(some (42,false)),.faddr 2 (.tmp 2)⟩,⟨some 49,(some (42,false)),.load 1 false (.tmp 48)⟩,⟨some 50,(some (42,false)),.mv (.tmp 1)⟩,⟨some 51,(some (42,false)),.callf (.func 18) [(.tmp 49),(.tmp 50)]⟩,⟨some 52,(some (42,false)),.callf (.func 17) [(.tmp 47),(.tmp 51)]⟩,⟨some 53,(some (42,false)),.bin .leq (.tmp 52) (.const (.int .i64 (0)))⟩,⟨some 54,none,.pick (.tmp 42) (.const (.bool true)) (.tmp 53)⟩,⟨some 55,none,.mv (.tmp 54)⟩,⟨some 56,(some (55,true)),.callf (.func 12) []⟩,⟨some 57,none,.pick (.tmp 55) (.tmp 56) (.const (.bool false))⟩,⟨some 4,none,.mv (.tmp 57)⟩]) .ret)))))
theorem cc7:ccode Try.prog [] (Try.f7.body.getD .skip) = some c7:=by kernel_rfl
theorem body7:Try.f7.body = some (Try.f7.body.getD .skip):=rfl
theorem simplexNever_C (p:PB) (x:VV) (hxl:(osl x).length <= 9223372036854775807) (hxf:∀ r ∈ osl x,Fits r 1048576):PureC Try.prog 7 [aP p,aV x] (.ret (aB true)):=by
 have hw:=awake12_C
 have hf:=fewP_C p
 cases c1:fewP p with
 | false =>
  rw [c1] at hf
  refine pureC_of (rs:=[(RV.tmp 4)]) Try.func7 (fun a w=>Try.call7 a w) body7 cc7 (by kernel_rfl) ?_
  rw [Try.ntmps7]
  simp only [frs,nA,nS]
  repeat (first | (with_reducible first | refine Way.imp ?_ | refine blk_o rfl ?_) | ((with_reducible refine WayR.imp (fun K hK=>?_));simp (disch:=first | omega | (simp only [dls];omega)) only [std,reduceIte,reduceCtorEq,iT,nA,nS,nM,iA,iS,iM,iN,fU];subst hK) | refine zcA (hf) rfl rfl rfl ?_ | refine zcA (hw) rfl rfl rfl ?_)
  exact ⟨_,rfl,rfl⟩
 | true =>
 rw [c1] at hf
 have hr:=sright_C p
 cases c2:rightB p with
 | false =>
  rw [c2] at hr
  refine pureC_of (rs:=[(RV.tmp 4)]) Try.func7 (fun a w=>Try.call7 a w) body7 cc7 (by kernel_rfl) ?_
  rw [Try.ntmps7]
  simp only [frs,nA,nS]
  repeat (first | (with_reducible first | refine Way.imp ?_ | refine blk_o rfl ?_) | ((with_reducible refine WayR.imp (fun K hK=>?_));simp (disch:=first | omega | (simp only [dls];omega)) only [std,reduceIte,reduceCtorEq,iT,nA,nS,nM,iA,iS,iM,iN,fU];subst hK) | refine zcA (hf) rfl rfl rfl ?_ | (apply call_any_g (hr) rfl;(case hg=>simp (disch:=first | omega | (simp only [dls];omega)) only [std,reduceIte,reduceCtorEq,iT,nA,nS,nM,iA,iS,iM,iN,fU]);(case hcl=>(simp only [evs,St.ev,constAV,evl];(repeat (first | exact closeAVs_nil | (apply closeAVs_cons;(first | (refine close_own3 rfl (by decide)) | (refine close_ownO rfl (by decide) ?_;assumption) | rfl))));done));(case hu=>rfl)) | refine zcA (hw) rfl rfl rfl ?_)
  exact ⟨_,rfl,rfl⟩
 | true =>
 rw [c2] at hr
 by_cases c3:(osl x).length <= 8
 case neg =>
  refine pureC_of (rs:=[(RV.tmp 4)]) Try.func7 (fun a w=>Try.call7 a w) body7 cc7 (by kernel_rfl) ?_
  rw [Try.ntmps7]
  simp only [frs,nA,nS]
  repeat (first | (with_reducible first | refine Way.imp ?_ | refine blk_o rfl ?_) | ((with_reducible refine WayR.imp (fun K hK=>?_));simp (disch:=first | omega | (simp only [dls];omega)) only [std,reduceIte,reduceCtorEq,iT,nA,nS,nM,iA,iS,iM,iN,fU];subst hK) | refine zcA (hf) rfl rfl rfl ?_ | (apply call_any_g (hr) rfl;(case hg=>simp (disch:=first | omega | (simp only [dls];omega)) only [std,reduceIte,reduceCtorEq,iT,nA,nS,nM,iA,iS,iM,iN,fU]);(case hcl=>(simp only [evs,St.ev,constAV,evl];(repeat (first | exact closeAVs_nil | (apply closeAVs_cons;(first | (refine close_own3 rfl (by decide)) | (refine close_ownO rfl (by decide) ?_;assumption) | rfl))));done));(case hu=>rfl)) | refine zcA (hw) rfl rfl rfl ?_)
  exact ⟨_,rfl,rfl⟩
 obtain ⟨fp,f4⟩:=fewP_fits c1
 have vx:FitsV x 8 1048576:=⟨c3,hxf⟩
 have hdo:=does_K p x 8 3 1048576 fp vx (by decide) (by decide) (by decide) (by decide) (by decide) (by decide) (by decide)
 cases c4:doesB p x with
 | false =>
  rw [c4] at hdo
  refine pureC_of (rs:=[(RV.tmp 4)]) Try.func7 (fun a w=>Try.call7 a w) body7 cc7 (by kernel_rfl) ?_
  rw [Try.ntmps7]
  simp only [frs,nA,nS]
  repeat (first | (with_reducible first | refine Way.imp ?_ | refine blk_o rfl ?_) | ((with_reducible refine WayR.imp (fun K hK=>?_));simp (disch:=first | omega | (simp only [dls];omega)) only [std,reduceIte,reduceCtorEq,iT,nA,nS,nM,iA,iS,iM,iN,fU];subst hK) | refine zcA (hf) rfl rfl rfl ?_ | (apply call_any_g (hr) rfl;(case hg=>simp (disch:=first | omega | (simp only [dls];omega)) only [std,reduceIte,reduceCtorEq,iT,nA,nS,nM,iA,iS,iM,iN,fU]);(case hcl=>(simp only [evs,St.ev,constAV,evl];(repeat (first | exact closeAVs_nil | (apply closeAVs_cons;(first | (refine close_own3 rfl (by decide)) | (refine close_ownO rfl (by decide) ?_;assumption) | rfl))));done));(case hu=>rfl)) | (apply call_any_g (hdo) rfl;(case hg=>simp (disch:=first | omega | (simp only [dls];omega)) only [std,reduceIte,reduceCtorEq,iT,nA,nS,nM,iA,iS,iM,iN,fU]);(case hcl=>(simp only [evs,St.ev,constAV,evl];(repeat (first | exact closeAVs_nil | (apply closeAVs_cons;(first | (refine close_own3 rfl (by decide)) | (refine close_ownO rfl (by decide) ?_;assumption) | rfl))));done));(case hu=>rfl)) | refine zcA (hw) rfl rfl rfl ?_)
  exact ⟨_,rfl,rfl⟩
 | true =>
 rw [c4] at hdo
 have hfe:=does_feasV c4
 have hC8:(osl p.C).length <= 8:=fp.2.2.1
 obtain ⟨r,T,ht⟩:=told p 3 (pfits_few c1 c2)
 have hT:=steps_few f4 hC8 ht.steps
 have cr:=ht.call 65536 (by decide) (by decide)
 rw [if_pos (by omega)] at cr
 have k4:∀ m,m <= 4 -> 4 ^ m * (3 + 1) <= 1024:=by decide
 have hv2:r.v ≠ 2:=fun h=>prov_no ht.prov h hfe
 have hXl:r.X.length = (osl p.C).length:=(prov_feas ht.prov hv2).1
 have vX:FitsV (rowV r.X) 8 1024:=fits_rowV (by omega) (fun q hq=>(ht.fx q hq).mono (k4 _ f4))
 have d1:=dot_W p.C (rowV r.X) 8 3 1024 fp.2.2 vX (by decide) (by decide) (by decide) (by decide) (by decide) (by decide) (by decide)
 have m1:=fits_dotW fp.2.2 vX (by decide) (by decide)
 have d2:=dot_W p.C x 8 3 1048576 fp.2.2 vx (by decide) (by decide) (by decide) (by decide) (by decide) (by decide) (by decide)
 have m2:=fits_dotW fp.2.2 vx (by decide) (by decide)
 have hxC:(osl x).length = (osl p.C).length:=by have:=hfe.1;rw [vals_len] at this;exact this
 rw [cx_dot4 hXl] at d1 m1
 rw [cx_dotV hxC] at d2 m2
 have hle:r.v = 1 -> cxP (pfOf p) r.X <= cxP (pfOf p) (valsV x):=fun h=>prov_le ht.prov h hfe
 clear ht
 generalize cxP (pfOf p) r.X = z at *
 generalize cxP (pfOf p) (valsV x) = y at *
 have hcm:=rcompare_C (rawQ z) (rawQ y) (fits_rawQ (m1.mono (by decide))) (fits_rawQ (m2.mono (by decide)))
 rw [rawQ_val,rawQ_val] at hcm
 have hcn:r.v = 1 -> cmpQ z y <= 0:=fun h=>by
  refine Int.not_lt.1 (fun h2=>?_)
  exact absurd ((cmpQ_pos _ _).1 h2) (Rat.not_lt.2 (hle h))
 unfold srV srC at cr
 generalize hrv:r.v = rv at *
 generalize encSl 1 fI (rowO (intsN r.bs)) = cb at *
 generalize cmpQ z y = w at *
 by_cases hv:rv = 1
 ·have hcn1:=hcn hv
  subst hv
  refine pureC_of (rs:=[(RV.tmp 4)]) Try.func7 (fun a w=>Try.call7 a w) body7 cc7 (by kernel_rfl) ?_
  rw [Try.ntmps7]
  simp only [frs,nA,nS]
  repeat (first | (with_reducible first | refine Way.imp ?_ | refine blk_o rfl ?_) | ((with_reducible refine WayR.imp (fun K hK=>?_));simp (disch:=first | omega | (simp only [dls];omega)) only [std,reduceIte,reduceCtorEq,iT,nA,nS,nM,iA,iS,iM,iN,fU,fR];subst hK) | refine zcA (hf) rfl rfl rfl ?_ | (apply call_any_g (hr) rfl;(case hg=>simp (disch:=first | omega | (simp only [dls];omega)) only [std,reduceIte,reduceCtorEq,iT,nA,nS,nM,iA,iS,iM,iN,fU,fR]);(case hcl=>(simp only [evs,St.ev,constAV,evl];(repeat (first | exact closeAVs_nil | (apply closeAVs_cons;(first | (refine close_own3 rfl (by decide)) | (refine close_ownO rfl (by decide) ?_;assumption) | rfl))));done));(case hu=>rfl)) | (apply call_any_g (hdo) rfl;(case hg=>simp (disch:=first | omega | (simp only [dls];omega)) only [std,reduceIte,reduceCtorEq,iT,nA,nS,nM,iA,iS,iM,iN,fU,fR]);(case hcl=>(simp only [evs,St.ev,constAV,evl];(repeat (first | exact closeAVs_nil | (apply closeAVs_cons;(first | (refine close_own3 rfl (by decide)) | (refine close_ownO rfl (by decide) ?_;assumption) | rfl))));done));(case hu=>rfl)) | refine zcA (cr) rfl rfl rfl ?_ | (apply call_any_g (d1) rfl;(case hg=>simp (disch:=first | omega | (simp only [dls];omega)) only [std,reduceIte,reduceCtorEq,iT,nA,nS,nM,iA,iS,iM,iN,fU,fR]);(case hcl=>(simp only [evs,St.ev,constAV,evl];(repeat (first | exact closeAVs_nil | (apply closeAVs_cons;(first | (refine close_own3 rfl (by decide)) | (refine close_ownO rfl (by decide) ?_;assumption) | rfl))));done));(case hu=>rfl)) | (apply call_any_g (d2) rfl;(case hg=>simp (disch:=first | omega | (simp only [dls];omega)) only [std,reduceIte,reduceCtorEq,iT,nA,nS,nM,iA,iS,iM,iN,fU,fR]);(case hcl=>(simp only [evs,St.ev,constAV,evl];(repeat (first | exact closeAVs_nil | (apply closeAVs_cons;(first | (refine close_own3 rfl (by decide)) | (refine close_ownO rfl (by decide) ?_;assumption) | rfl))));done));(case hu=>rfl)) | (apply call_any_g (hcm) rfl;(case hg=>simp (disch:=first | omega | (simp only [dls];omega)) only [std,reduceIte,reduceCtorEq,iT,nA,nS,nM,iA,iS,iM,iN,fU,fR]);(case hcl=>(simp only [evs,St.ev,constAV,evl];(repeat (first | exact closeAVs_nil | (apply closeAVs_cons;(first | (refine close_own3 rfl (by decide)) | (refine close_ownO rfl (by decide) ?_;assumption) | rfl))));done));(case hu=>rfl)) | (apply call_any_g (hw) rfl;(case hg=>simp (disch:=first | omega | (simp only [dls];omega)) only [std,reduceIte,reduceCtorEq,iT,nA,nS,nM,iA,iS,iM,iN,fU,fR]);(case hcl=>(simp only [evs,St.ev,constAV,evl];(repeat (first | exact closeAVs_nil | (apply closeAVs_cons;(first | (refine close_own3 rfl (by decide)) | (refine close_ownO rfl (by decide) ?_;assumption) | rfl))));done));(case hu=>rfl)))
  exact ⟨_,rfl,rfl⟩
 ·have hv3:¬ (rv:Int) = 1:=by omega
  have hv4:¬ (rv:Int) = 2:=by omega
  refine pureC_of (rs:=[(RV.tmp 4)]) Try.func7 (fun a w=>Try.call7 a w) body7 cc7 (by kernel_rfl) ?_
  rw [Try.ntmps7]
  simp only [frs,nA,nS]
  repeat (first | (with_reducible first | refine Way.imp ?_ | refine blk_o rfl ?_) | ((with_reducible refine WayR.imp (fun K hK=>?_));simp (disch:=first | omega | (simp only [dls];omega)) only [std,reduceIte,reduceCtorEq,iT,nA,nS,nM,iA,iS,iM,iN,fU,fR];subst hK) | refine zcA (hf) rfl rfl rfl ?_ | (apply call_any_g (hr) rfl;(case hg=>simp (disch:=first | omega | (simp only [dls];omega)) only [std,reduceIte,reduceCtorEq,iT,nA,nS,nM,iA,iS,iM,iN,fU,fR]);(case hcl=>(simp only [evs,St.ev,constAV,evl];(repeat (first | exact closeAVs_nil | (apply closeAVs_cons;(first | (refine close_own3 rfl (by decide)) | (refine close_ownO rfl (by decide) ?_;assumption) | rfl))));done));(case hu=>rfl)) | (apply call_any_g (hdo) rfl;(case hg=>simp (disch:=first | omega | (simp only [dls];omega)) only [std,reduceIte,reduceCtorEq,iT,nA,nS,nM,iA,iS,iM,iN,fU,fR]);(case hcl=>(simp only [evs,St.ev,constAV,evl];(repeat (first | exact closeAVs_nil | (apply closeAVs_cons;(first | (refine close_own3 rfl (by decide)) | (refine close_ownO rfl (by decide) ?_;assumption) | rfl))));done));(case hu=>rfl)) | refine zcA (cr) rfl rfl rfl ?_ | (apply call_any_g (hw) rfl;(case hg=>simp (disch:=first | omega | (simp only [dls];omega)) only [std,reduceIte,reduceCtorEq,iT,nA,nS,nM,iA,iS,iM,iN,fU,fR]);(case hcl=>(simp only [evs,St.ev,constAV,evl];(repeat (first | exact closeAVs_nil | (apply closeAVs_cons;(first | (refine close_own3 rfl (by decide)) | (refine close_ownO rfl (by decide) ?_;assumption) | rfl))));done));(case hu=>rfl)))
  exact ⟨_,rfl,rfl⟩
end Go.Proofs.Ytncgbjhojbnecaa
