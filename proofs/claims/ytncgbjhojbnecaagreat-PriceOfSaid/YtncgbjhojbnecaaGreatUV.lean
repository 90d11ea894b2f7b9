/- Walks of model: Feasible, Value; shape: Back, Slack. -/
import Derived.Test.YtncgbjhojbnecaaGreatU12
import Derived.Test.YtncgbjhojbnecaaGreatU14
import Derived.Test.YtncgbjhojbnecaaGreatU16
set_option linter.unusedSimpArgs false
set_option linter.unusedVariables false
set_option linter.unnecessarySimpa false
set_option maxRecDepth 100000
set_option maxHeartbeats 4000000
open Bool renaming true -> SA, and_eq_true -> JA, false -> TA
open List renaming getD_eq_getElem?_getD -> bA, length_map -> eA, getElem?_eq_getElem -> aA, mem_map -> yA, getElem_mem -> gA, mem_range -> zA, length_append -> sA, map_congr_left -> wA
open Option renaming none -> QA, getD_some -> DA
open Nat renaming le_refl -> EA
namespace Go.Proofs.YtncgbjhojbnecaaGreat
open Go Go.Am Go.Proofs Go.RowKit Go.Off
theorem BP (l:List Rat):(UA (FB l)).length = l.length:=j6 l
theorem rowV_get (l:List Rat) (i:Nat):jE (FB l) i = l.getD i 0:=qAt_rw l i
theorem qAt_past {v:VV} {i:Nat} (h:(UA v).length <= i):jE v i = 0:=by unfold jE;rw [rAt_out h];exact cP
structure RtMd (m:MD):Prop where
 v60:(UA m.vars).length <= 60
 cost:(UA m.cost).length = (UA m.vars).length
 r60:(UA m.rows).length <= 60
 row:∀ i,i < (UA m.rows).length -> (UA (MG m i).coef).length = (UA m.vars).length /\ -1 <= (MG m i).rel /\ (MG m i).rel <= 1
theorem rt_of {m:MD} (h:VD m = SA):RtMd m:=by
 unfold VD at h
 simp only [JA,decide_eq_true_eq] at h
 obtain ⟨h1,h2,h3,_,_,h4⟩:=h
 have h4':jG (HH m) (UA m.rows).length = TA:=by simpa using h4
 refine ⟨h1,h2,h3,fun i hi=>?_⟩
 have:=xG h4' hi
 unfold HH mM at this
 simpa using this
theorem qAt_wide (l:VV) (n i:Nat):(fF l n).getD i 0 = jE l i:=by
 unfold fF
 rw [bA]
 by_cases h:i < (UA l).length
 ·rw [List.getElem?_append_left (by rw [eA];exact h),List.getElem?_map,aA h]
  unfold jE;rw [fE h];rfl
 ·rw [List.getElem?_append_right (by rw [eA];omega),qAt_past (by omega),List.getElem?_replicate]
  split <;> rfl
theorem FS {m:MD} (h:RtMd m) {i:Nat} (hi:i < (UA m.rows).length):(kG m i).length = YK m:=by
 have h1:=(h.row i hi).1
 have:(UA (MG m i).coef).length <= YK m:=by unfold YK;omega
 unfold kG
 split
 ·exact lG _ _ this
 ·rw [List.length_set];exact lG _ _ this
theorem LZ (m:MD):(UA (fX m).A).length = (UA m.rows).length:=by
 show (UA (aC ((z4 m (UA m.rows).length).map FB))).length = _
 rw [WB,eA];unfold z4;rw [eA,List.length_range]
theorem KZ (m:MD) {i:Nat} (hi:i < (UA m.rows).length):RJ (fX m).A i = FB (kG m i):=by
 unfold RJ
 show (UA (aC ((z4 m (UA m.rows).length).map FB))).getD i QA = _
 rw [WB,bA,List.getElem?_map]
 unfold z4
 rw [List.getElem?_map,List.getElem?_range hi]
 rfl
theorem ofP_Bl (m:MD):(UA (fX m).B).length = (UA m.rows).length:=by
 show (UA (FB (y4 m (UA m.rows).length))).length = _
 rw [BP];unfold y4;rw [eA,List.length_range]
theorem ofP_C (m:MD) (i:Nat):jE (fX m).C i = jE m.cost i:=by
 show jE (FB (fF m.cost (YK m))) i = _
 rw [rowV_get,qAt_wide]
theorem SX {m:MD} (h:RtMd m):(UA (fX m).C).length = YK m:=by
 show (UA (FB (fF m.cost (YK m)))).length = _
 rw [BP,lG _ _ (by rw [h.cost];unfold YK;omega)]
theorem J2 {m:MD} (h:RtMd m):AD (fX m) = SA:=by
 have hs:=FK m (UA m.rows).length
 have hv:=h.v60
 have hr:=h.r60
 unfold AD
 rw [SX h,LZ,ofP_Bl,decide_eq_true (show YK m <= 5000 by unfold YK;omega),decide_eq_true (show (UA m.rows).length <= 90 by omega),decide_eq_true rfl]
 have:jG (AF (fX m)) (UA m.rows).length = TA:=AU (fun i hi=>by
  unfold AF
  rw [KZ m hi,BP,FS h hi,SX h]
  simp)
 rw [this];rfl
structure FewMd (m:MD):Prop where
 fits:rR m 8 3
 vars:(UA m.vars).length <= 8
 rows:(UA m.rows).length <= 6
 names:∀ s ∈ UA m.vars,s.length <= 1000000
 rnames:∀ r ∈ UA m.rows,r.name.length <= 1000000
theorem J6 {m:MD} (h:RQ m = SA):FewMd m:=by
 unfold RQ at h
 simp only [JA,decide_eq_true_eq] at h
 obtain ⟨h1,h2,h3,h4,h5⟩:=h
 refine ⟨⟨TI h5,fun r hr=>?_⟩,h3,h4,fun s hs=>?_,fun r hr=>?_⟩
 ·obtain ⟨i,hi,rfl⟩:=List.mem_iff_getElem.1 hr
  have:=BU h2 (k:=i) (by omega)
  unfold VF at this
  rw [FD hi] at this
  simp only [JA,decide_eq_true_eq] at this
  exact ⟨TI this.2.1,(TI this.2.2).2 _ (by simp [UA])⟩
 ·obtain ⟨i,hi,rfl⟩:=List.mem_iff_getElem.1 hs
  have:=BU h1 (k:=i) (by omega)
  unfold wP at this
  rw [bA,aA hi] at this
  have h6:(UA m.vars)[i].length <= 20:=by simpa using this
  omega
 ·obtain ⟨i,hi,rfl⟩:=List.mem_iff_getElem.1 hr
  have:=BU h2 (k:=i) (by omega)
  unfold VF at this
  rw [FD hi] at this
  simp only [JA,decide_eq_true_eq] at this
  omega
theorem tN {l:VV} {n L:Nat} (h:vC l n L) (hL:1 <= L) (N:Nat):∀ q ∈ fF l N,SB q L:=fun q hq=>by
 unfold fF at hq
 rcases List.mem_append.1 hq with hq | hq
 ·obtain ⟨r,hr,rfl⟩:=yA.1 hq
  exact (h.2 r hr).val hL
 ·rw [(List.mem_replicate.1 hq).2];exact HC L hL
theorem G6 {m:MD} (h:RtMd m) (hf:FewMd m):pR (fX m) 14 3:=by
 have hs:=FK m (UA m.rows).length
 have hN:YK m <= 14:=by have:=hf.vars;have:=hf.rows;unfold YK;omega
 refine ⟨⟨by rw [LZ];have:=hf.rows;omega,fun v hv=>?_⟩,?_,?_⟩
 ·obtain ⟨i,hi,rfl⟩:=List.mem_iff_getElem.1 hv
  have hi':i < (UA m.rows).length:=by rw [<- LZ];exact hi
  rw [<- mF hi,KZ m hi']
  have hr:=h.row i hi'
  have hcf:=(hf.fits.2 _ (gA hi')).1
  rw [<- FD hi'] at hcf
  refine UO (by rw [FS h hi'];exact hN) (fun q hq=>?_)
  unfold kG at hq
  split at hq
  ·exact tN hcf (by decide) _ q hq
  ·rcases List.mem_or_eq_of_mem_set hq with hq | hq
   ·exact tN hcf (by decide) _ q hq
   ·rw [hq];exact (FG _ (by omega) (by omega)).mono (by decide)
 ·refine UO (by unfold y4;rw [eA,List.length_range];have:=hf.rows;omega) (fun q hq=>?_)
  unfold y4 at hq
  obtain ⟨i,hi,rfl⟩:=yA.1 hq
  rw [zA] at hi
  have:=(hf.fits.2 _ (gA hi)).2
  rw [<- FD hi] at this
  exact this.val (by decide)
 ·exact UO (by rw [lG _ _ (by rw [h.cost];unfold YK;omega)];exact hN) (tN hf.fits.1 (by decide) _)
theorem pR.mono {p:PB} {n L K:Nat} (h:pR p n L) (hk:L <= K):pR p n K:=⟨⟨h.1.1,fun v hv=>(h.1.2 v hv).monoL hk⟩,h.2.1.monoL hk,h.2.2.monoL hk⟩
theorem rR.mono {m:MD} {n L K:Nat} (h:rR m n L) (hk:L <= K):rR m n K:=⟨h.1.monoL hk,fun r hr=>⟨(h.2 r hr).1.monoL hk,(h.2 r hr).2.mono hk⟩⟩
theorem mW {key:Nat -> Nat -> Int} {j:Nat} {base:List (Int × Int)}:∀ i a,a < i -> ((pK key j base i).lookup (key j a)).isSome = SA
 | 0,a,h=>absurd h (Nat.not_lt_zero _)
 | i + 1,a,h=>by
  show (List.lookup (key j a) ((key j i,(j:Int)) :: pK key j base i)).isSome = SA
  rw [List.lookup_cons]
  cases he:(key j a == key j i) with
  | true=>rfl
  | false =>
   refine mW i a (Nat.lt_of_le_of_ne (Nat.le_of_lt_succ h) (fun e=>?_))
   rw [e] at he
   simp at he
theorem fT {m:MD} {n:NB} (h:OG m n = SA) {b:Nat} (hb:b < (UA n).length):(UA (UD n b)).Pairwise (· ≠ ·):=by
 rw [List.pairwise_iff_getElem]
 intro i j hi hj hij e
 have h1:=UT h hb (show j < CF n b from hj)
 unfold G2 at h1
 simp only [JA,decide_eq_true_eq] at h1
 have h2:=mW (key:=NG n) (j:=b) (base:=RF (NG n) (CF n) b) j i hij
 have e1:NG n b i = NG n b j:=by
  unfold NG
  rw [bA,bA,aA hi,aA hj,e]
 rw [e1] at h2
 rw [h2] at h1
 simp at h1
theorem S0 {m:MD} {n:NB} (h:OG m n = SA) {b:Nat} (hb:b < (UA n).length):(UA (UD n b)).length <= (UA m.vars).length:=by
 have hin:=kR h hb
 have hnd:=fT h hb
 have h1:((UA (UD n b)).map Int.toNat).Nodup:=by
  rw [List.nodup_iff_pairwise_ne,List.pairwise_map]
  exact hnd.imp_of_mem (fun {x y} hx hy hne e=>hne (by have:=(hin x hx).1;have:=(hin y hy).1;omega))
 have h2:=h1.length_le_of_subset (l₂:=List.range (UA m.vars).length) (fun z hz=>by
  obtain ⟨x,hx,rfl⟩:=yA.1 hz
  have:=hin x hx
  exact zA.2 (by omega))
 rw [eA,List.length_range] at h2
 exact h2
theorem nN {l:List ZJ}:vJ l = SA ↔ (∀ s ∈ l,nmB s = SA) /\ l.Pairwise (· ≠ ·):=by
 have hg:∀ i (hi:i < l.length),l.getD i [] = l[i]:=fun i hi=>by rw [bA,aA hi];rfl
 have key:vJ l = SA ↔ ∀ i,i < l.length -> nmB (l.getD i []) = SA /\ bU l (l.getD i []) = (i:Int):=by
  unfold vJ UV
  rw [List.all_eq_true]
  unfold L2
  simp only [zA,JA,decide_eq_true_eq]
 rw [key]
 constructor
 ·intro h
  refine ⟨fun s hs=>?_,?_⟩
  ·obtain ⟨i,hi,rfl⟩:=List.getElem_of_mem hs
   have:=(h i hi).1
   rwa [hg i hi] at this
  ·rw [List.pairwise_iff_getElem]
   intro i j hi hj hij e
   have h1:=(h i hi).2
   have h2:=(h j hj).2
   rw [hg i hi] at h1
   rw [hg j hj,<- e,h1] at h2
   omega
 ·rintro ⟨h1,h2⟩ i hi
  rw [hg i hi]
  refine ⟨h1 _ (gA hi),?_⟩
  unfold bU
  rw [List.pairwise_iff_getElem] at h2
  refine QI hi (AU (fun k hk=>?_)) ?_
  ·unfold sIs
   rw [hg k (by omega)]
   have:=h2 k i (by omega) hi hk
   simpa using fun e=>this e.symm
  ·unfold sIs
   rw [hg i hi]
   simp
theorem rG {m:MD} {n:NB} {b:Nat} {r:RowM}:∀ k,r ∈ iF m n b k -> ∃ i,i < k /\ r = OX m n b i
 | 0,h=>by cases h
 | k + 1,h=>by
  unfold iF at h
  split at h
  ·rcases List.mem_append.1 h with h | h
   ·obtain ⟨i,hi,e⟩:=rG k h
    exact ⟨i,by omega,e⟩
   ·exact ⟨k,by omega,List.mem_singleton.1 h⟩
  ·obtain ⟨i,hi,e⟩:=rG k h
   exact ⟨i,by omega,e⟩
theorem mN (m:MD) (n:NB) (b:Nat):∀ k,(iF m n b k).length <= k
 | 0=>EA _
 | k + 1=>by
  have:=mN m n b k
  unfold iF
  split
  ·rw [sA];simp;omega
  ·omega
theorem DS {m:MD} {n:NB} {b:Nat} (h:(DH m).Pairwise (· ≠ ·)):∀ k,k <= (UA m.rows).length -> ((iF m n b k).map RowM.name).Pairwise (· ≠ ·)
 | 0,_=>List.Pairwise.nil
 | k + 1,hk=>by
  have ih:=DS (n:=n) (b:=b) h k (by omega)
  unfold iF
  split
  ·rw [List.map_append,List.pairwise_append]
   refine ⟨ih,List.pairwise_singleton _ _,fun x hx y hy e=>?_⟩
   obtain ⟨r,hr,rfl⟩:=yA.1 hx
   obtain ⟨i,hi,rfl⟩:=rG k hr
   have hy':y = (OX m n b k).name:=by simpa using hy
   rw [List.pairwise_iff_getElem] at h
   have hl:(DH m).length = (UA m.rows).length:=by unfold DH;rw [eA]
   have:=h i k (by omega) (by omega) hi
   refine this ?_
   rw [hy'] at e
   have e1:(MG m i).name = (MG m k).name:=e
   rw [FD (by omega),FD (by omega)] at e1
   unfold DH
   rw [List.getElem_map,List.getElem_map]
   exact e1
  ·exact ih
theorem C2 {m:MD} {n:NB} {b:Nat} (hm:VD m = SA) (h:OG m n = SA) (hb:b < (UA n).length):VD (GH m n b) = SA:=by
 have rt:=rt_of hm
 have hin:=kR h hb
 have hnd:=fT h hb
 have hbl:=S0 h hb
 unfold VD at hm
 simp only [JA,decide_eq_true_eq] at hm
 obtain ⟨_,_,_,hv,hr,_⟩:=hm
 rw [nN] at hv hr
 have hol:=mN m n b (UA m.rows).length
 have hv60:=rt.v60
 have hr60:=rt.r60
 have e1:UA (GH m n b).vars = sF m.vars (UA (UD n b)):=WB _
 have e2:UA (GH m n b).cost = tF m.cost (UA (UD n b)):=WB _
 have e3:UA (GH m n b).rows = iF m n b (UA m.rows).length:=WB _
 have l1:(sF m.vars (UA (UD n b))).length = (UA (UD n b)).length:=by unfold sF;rw [eA]
 have l2:∀ v,(tF v (UA (UD n b))).length = (UA (UD n b)).length:=fun v=>by unfold tF;rw [eA]
 unfold VD
 simp only [JA,decide_eq_true_eq]
 refine ⟨by rw [e1,l1];omega,by rw [e1,e2,l1,l2],by rw [e3];omega,?_,?_,?_⟩
 ·rw [nN,e1]
  refine ⟨fun s hs=>?_,?_⟩
  ·unfold sF at hs
   obtain ⟨z,hz,rfl⟩:=yA.1 hs
   have:=hin z hz
   rw [bA,aA (by omega)]
   exact hv.1 _ (gA (by omega))
  ·unfold sF
   rw [List.pairwise_map]
   refine hnd.imp_of_mem (fun {x y} hx hy hne e=>?_)
   have hx':=hin x hx
   have hy':=hin y hy
   have hv2:=hv.2
   rw [List.pairwise_iff_getElem] at hv2
   rw [bA,aA (by omega),bA,aA (by omega)] at e
   simp only [DA] at e
   rcases Nat.lt_trichotomy x.toNat y.toNat with c | c | c
   ·exact hv2 _ _ (by omega) (by omega) c e
   ·exact hne (by omega)
   ·exact hv2 _ _ (by omega) (by omega) c e.symm
 ·have e4:DH (GH m n b) = (iF m n b (UA m.rows).length).map RowM.name:=by unfold DH;rw [e3]
  rw [nN,e4]
  refine ⟨fun s hs=>?_,DS hr.2 _ (EA _)⟩
  obtain ⟨r,hr',rfl⟩:=yA.1 hs
  obtain ⟨i,hi,rfl⟩:=rG _ hr'
  refine hr.1 _ ?_
  show (MG m i).name ∈ _
  rw [FD hi]
  unfold DH
  exact List.mem_map_of_mem (gA hi)
 ·have:jG (HH (GH m n b)) (UA (GH m n b).rows).length = TA:=AU (fun k hk=>by
   unfold HH
   rw [FD hk]
   have hmem:=gA hk
   generalize (UA (GH m n b).rows)[k] = r at hmem
   rw [e3] at hmem
   obtain ⟨i,hi,rfl⟩:=rG _ hmem
   have h2:=rt.row i hi
   unfold mM OX
   rw [e1,l1]
   simp only
   rw [WB,l2]
   simp [h2.2.1,h2.2.2])
  rw [this];rfl
theorem own_few {m:MD} {n:NB} {b:Nat} (fm:FewMd m) (h:OG m n = SA) (hb:b < (UA n).length):FewMd (GH m n b):=by
 have hbl:=S0 h hb
 have hin:=kR h hb
 have hol:=mN m n b (UA m.rows).length
 have hv8:=fm.vars
 have hr6:=fm.rows
 have l2:∀ v,(tF v (UA (UD n b))).length = (UA (UD n b)).length:=fun v=>by unfold tF;rw [eA]
 have hp:∀ v,vC v 8 3 -> vC (aC (tF v (UA (UD n b)))) 8 3:=fun v hv=>by
  refine ⟨by rw [WB,l2];omega,fun r hr=>?_⟩
  rw [WB] at hr
  unfold tF at hr
  obtain ⟨z,hz,rfl⟩:=yA.1 hr
  exact hv.at _
 refine ⟨⟨hp _ fm.fits.1,fun r hr=>?_⟩,?_,?_,fun s hs=>?_,fun r hr=>?_⟩
 ·rw [show UA (GH m n b).rows = iF m n b (UA m.rows).length from WB _] at hr
  obtain ⟨i,hi,rfl⟩:=rG _ hr
  have h3:=fm.fits.2 (MG m i) (by rw [FD hi];exact gA hi)
  exact ⟨hp _ h3.1,h3.2⟩
 ·rw [show UA (GH m n b).vars = sF m.vars (UA (UD n b)) from WB _]
  unfold sF;rw [eA];omega
 ·rw [show UA (GH m n b).rows = iF m n b (UA m.rows).length from WB _];omega
 ·rw [show UA (GH m n b).vars = sF m.vars (UA (UD n b)) from WB _] at hs
  unfold sF at hs
  obtain ⟨z,hz,rfl⟩:=yA.1 hs
  have:=hin z hz
  rw [bA,aA (by omega)]
  exact fm.names _ (gA (by omega))
 ·rw [show UA (GH m n b).rows = iF m n b (UA m.rows).length from WB _] at hr
  obtain ⟨i,hi,rfl⟩:=rG _ hr
  exact fm.rnames (MG m i) (by rw [FD hi];exact gA hi)
theorem WY {p:PB} {c:VV} (h2:(UA c).length <= (UA p.C).length):(UA (WH p c).C).length = (UA p.C).length:=by
 show (UA (FB (yI p c))).length = _
 rw [nD,XW h2]
theorem o4 {p:PB} {c:VV} (hr:AD p = SA) (h2:(UA c).length <= (UA p.C).length):AD (WH p c) = SA:=by
 have e:AF (WH p c) = AF p:=by
  funext i
  unfold AF
  rw [WY h2];rfl
 unfold AD at hr ⊢
 rw [WY h2,e]
 exact hr
theorem B3 {p:PB} {c:VV} {n L:Nat} (hc:vC c n L) (hL:1 <= L):∀ q ∈ yI p c,SB q L:=fun q hq=>by
 unfold yI at hq
 rcases List.mem_append.1 hq with h | h
 ·obtain ⟨x,hx,rfl⟩:=yA.1 h
  exact (hc.2 x hx).val hL
 ·rw [(List.mem_replicate.1 h).2];exact HC _ hL
theorem CS {p:PB} {c:VV} (fP:pR p 14 3) (hm:(UA p.A).length <= 6) (hr:AD p = SA) (hc:vC c 14 3) (h2:(UA c).length <= (UA p.C).length):PFits (WH p c) 3:=by
 obtain ⟨f1,f2,f3⟩:=fP
 have f5:∀ m,m <= 6 -> 4 ^ m * (3 + 1) <= 4000000 /\ m * (4 ^ m * (3 + 1) + 3 + 1) <= 8989000:=by decide
 refine ⟨o4 hr h2,⟨by have:=f1.1;show (UA p.A).length <= _;omega,fun v hv=>⟨by have:=(f1.2 v hv).1;omega,(f1.2 v hv).2⟩⟩,⟨by have:=f2.1;show (UA p.B).length <= _;omega,f2.2⟩,fun r hr=>?_,by decide,by decide,(f5 _ hm).1,(f5 _ hm).2⟩
 rw [show UA (WH p c).C = (yI p c).map eB from RE _] at hr
 obtain ⟨q,hq,rfl⟩:=yA.1 hr
 exact QB (B3 hc (by decide) q hq)
structure Asked (p:PB) (vs:Option (List Int)) (c:VV) (r:SR) (T:Nat):Prop where
 steps:T <= 41763
 told:Told (WH p c) 16384 r T
 yes:∀ bu:Int,(T:Int) <= bu -> bu <= 9223372036854775807 -> YA Tryz.prog 17 [aBk p vs,aV c,aI bu] (.ret (.tup [I2 p c r,aI T,aI 0]))
 no:∀ bu:Int,0 <= bu -> bu < T -> YA Tryz.prog 17 [aBk p vs,aV c,aI bu] (.ret (.tup [aOf0,aI 0,aI 10]))
 neg:∀ bu:Int,bu < 0 -> YA Tryz.prog 17 [aBk p vs,aV c,aI bu] (.ret (.tup [aOf0,aI 0,aI 1]))
theorem oF.mono' {l:List Rat} {K K':Nat} (h:oF l K) (hk:K <= K'):oF l K':=fun q hq=>(h q hq).mono hk
theorem asked (p q:PB) (vs:Option (List Int)) (c:VV) (fP:pR p 14 3) (hm:(UA p.A).length <= 6) (hr:AD p = SA) (hc:vC c 14 3) (h1:(UA c).length = (UA vs).length) (h2:(UA c).length <= (UA p.C).length)
  (K:Nat) (hq:PFits q K) (he:GC (WH p c) = GC q):∃ r T,Asked p vs c r T /\ Told q (4 ^ (UA q.A).length * (K + 1)) r T:=by
 obtain ⟨r,T,t1,t2,k,k1,k2⟩:=told2 (WH p c) q 3 K (CS fP hm hr hc h2) hq he
 have hn:(UA p.C).length <= 14:=fP.2.2.1
 rw [WY h2] at k2
 have hm':(UA (WH p c).A).length <= 6:=hm
 have hT:=QU hm' hn k1 k2
 have hK:4 ^ (UA (WH p c).A).length * (3 + 1) <= 16384:=by
  have:∀ m,m <= 6 -> 4 ^ m * (3 + 1) <= 16384:=by decide
  exact this _ hm
 have t1':Told (WH p c) 16384 r T:=⟨t1.steps,t1.prov,t1.crn,t1.blen,t1.fx.mono' hK,t1.fy.mono' hK,t1.fr.mono' hK,t1.call⟩
 refine ⟨r,T,⟨hT,t1',fun bu b1 b2=>?_,fun bu b1 b2=>?_,fun bu b1=>?_⟩,t2⟩
 ·have hs:=t1.call bu (by omega) b2
  rw [if_pos b1] at hs
  exact r8 p vs c bu 14 3 16384 hc (by decide) (by decide) (by decide) (by decide) (by decide) (by decide) hr h1 h2 hn r T t1'.fx t1'.fr t1.prov hs
 ·have hs:=t1.call bu b1 (by omega)
  rw [if_neg (by omega)] at hs
  exact W0 p vs c bu 10 14 3 hc (by decide) (by decide) (by decide) hr h1 h2 (by decide) hs
 ·exact W0 p vs c bu 1 14 3 hc (by decide) (by decide) (by decide) hr h1 h2 (by decide) (F1 (WH p c) bu b1)
structure Blk14 (m:MD) (n:NB) (b:Nat) (M:MD):Prop where
 pof:YA Tryz.prog 11 [DU m,XY n,aI b] (.ret (.tup [aBk (fX M) (UD n b),aI 0]))
 rt:RtMd M
 fm:FewMd M
 vl:(UA M.vars).length = (UA (UD n b)).length
 fit:pR (fX M) 14 3
 rows:(UA (fX M).A).length <= 6
 right:AD (fX M) = SA
 len:(UA (UD n b)).length <= (UA (fX M).C).length
 in8:inB (UA m.vars).length (UA (UD n b))
theorem blk14 {m:MD} {n:NB} {b:Nat} (hn:FitsN n) (fm:FewMd m) (hb:bH m n = SA) (hbl:b < (UA n).length):Blk14 m n b (GH m n b):=by
 have hb':=hb
 unfold bH at hb'
 simp only [JA] at hb'
 have hr:=C2 hb'.2.2 hb'.2.1 hbl
 have rt:=rt_of hr
 have fm2:=own_few fm hb'.2.1 hbl
 have hvl:(UA (GH m n b).vars).length = (UA (UD n b)).length:=by
  rw [show UA (GH m n b).vars = sF m.vars (UA (UD n b)) from WB _]
  unfold sF;rw [eA]
 have hof:=lZ (GH m n b) 8 3 fm2.fits (by decide) (by decide) (by decide) fm2.names fm2.rnames hr
 refine ⟨CZ m n b 3 hn (by have:=fm.vars;omega) fm.names fm.rnames (fun r hr x hx=>(fm.fits.2 r hr).1.2 x hx) (by decide) hb hbl _ _ hof,rt,fm2,hvl,G6 rt fm2,by rw [LZ];exact fm2.rows,J2 rt,?_,kR hb'.2.1 hbl⟩
 rw [SX rt]
 unfold YK
 omega
theorem V0 (l:VV) (p:List Int):(UA (aC (mT l p))).length = p.length:=by rw [WB];unfold mT;rw [eA]
theorem m8 {l:VV} {p:List Int} {k n L:Nat} (h:vC l k L) (hL:1 <= L) (hp:p.length <= n):vC (aC (mT l p)) n L:=by
 refine ⟨by rw [V0];exact hp,fun r hr=>?_⟩
 rw [WB] at hr
 unfold mT at hr
 obtain ⟨z,_,rfl⟩:=yA.1 hr
 exact WW h hL z
theorem vX (v:VV):lM v v = SA:=rZ rfl (fun k hk=>rfl)
theorem atQ_pick {l:VV} {p:List Int} (h:inB (UA l).length p):mT l p = tF l p:=by
 unfold mT tF
 refine wA (fun z hz=>?_)
 unfold atR
 rw [if_pos (h z hz)]
end Go.Proofs.YtncgbjhojbnecaaGreat
