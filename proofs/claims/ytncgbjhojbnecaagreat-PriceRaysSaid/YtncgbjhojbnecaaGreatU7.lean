/- Plain: what the simplex method answers, and that its answer is proved. -/
import Derived.Test.YtncgbjhojbnecaaGreatU6
set_option linter.unusedSimpArgs false
set_option linter.unusedVariables false
set_option linter.unnecessarySimpa false
open Option renaming none -> QA, some -> PA
open List renaming replicate -> jA, length_map -> eA, getD_eq_getElem?_getD -> bA
open Nat renaming le_refl -> EA, le_trans -> GA, zero_le -> fN
namespace Go.Off
structure PF where
 m:Nat
 n:Nat
 a:Nat -> Nat -> Rat
 b:Nat -> Rat
 c:Nat -> Rat
def rF (P:PF) (i:Nat) (x:Rat):Rat:=if P.b i < 0 then -x else x
def qC (P:PF):SD:=⟨P.n,P.m,(List.range P.n).map fun k=>(List.range P.m).map fun i=>rF P i (P.a i k),(List.range P.m).map fun i=>rF P i (P.b i)⟩
def JC (P:PF):List Rat:=(List.range P.n).map P.c
def mG (P:PF) (l:List Rat):List Rat:=(List.range l.length).map fun i=>rF P i (l.getD i 0)
structure SR where
 v:Nat
 X:List Rat
 Y:List Rat
 Ray:List Rat
 bs:List Nat
 rem:Nat
def ZK (P:PF) (bs:List Nat) (y:List Rat) (k:Option Nat) (d:List Rat) (rem:Nat):SR :=
 match k with
 | none=>⟨1,cC (qC P) bs (xL (qC P) bs),mG P y,[],bs,rem⟩
 | some k=>⟨3,cC (qC P) bs (xL (qC P) bs),[],(cC (qC P) bs (yC d (-1))).set k 1,bs,rem⟩
def endO (P:PF) (o:RO):SR:=ZK P o.bs o.y o.k o.d o.rem
def jI (P:PF) (rem:Nat) (bs:List Nat):Option SR :=
 if (tC (qC P) (JC P) 0 rem bs).err then QA else PA (endO P (tC (qC P) (JC P) 0 rem bs))
def cE (P:PF):List Nat:=(List.range P.m).map fun j=>P.n + j
def lC (P:PF):List Rat:=jA P.n 0
def zH (P:PF) (rem:Nat):Option SR :=
 if (tC (qC P) (lC P) 1 rem (cE P)).err then QA else
 if 0 < LH (tC (qC P) (lC P) 1 rem (cE P)).y (qC P).b then PA ⟨2,[],mG P (tC (qC P) (lC P) 1 rem (cE P)).y,[],(tC (qC P) (lC P) 1 rem (cE P)).bs,(tC (qC P) (lC P) 1 rem (cE P)).rem⟩
 else jI P (tC (qC P) (lC P) 1 rem (cE P)).rem (iD (qC P) (tC (qC P) (lC P) 1 rem (cE P)).bs P.m)
def colY (P:PF) (y:List Rat) (k:Nat):Rat:=OB P.m fun i=>lF y i * P.a i k
def wX (P:PF) (x:List Rat) (i:Nat):Rat:=OB P.n fun k=>P.a i k * lF x k
def ybP (P:PF) (y:List Rat):Rat:=OB P.m fun i=>lF y i * P.b i
def cxP (P:PF) (x:List Rat):Rat:=OB P.n fun k=>P.c k * lF x k
def R8 (P:PF) (x:List Rat):Prop:=x.length = P.n /\ (∀ k,k < P.n -> 0 <= lF x k) /\ ∀ i,i < P.m -> wX P x i = P.b i
def ZR (P:PF) (r:SR):Prop :=
 (r.v = 1 /\ R8 P r.X /\ r.Y.length = P.m /\ (∀ k,k < P.n -> colY P r.Y k <= P.c k) /\ ybP P r.Y = cxP P r.X /\ r.Ray = []) \/
 (r.v = 2 /\ r.X = [] /\ r.Ray = [] /\ r.Y.length = P.m /\ (∀ k,k < P.n -> colY P r.Y k <= 0) /\ 0 < ybP P r.Y) \/
 (r.v = 3 /\ r.Y = [] /\ R8 P r.X /\ r.Ray.length = P.n /\ (∀ k,k < P.n -> 0 <= lF r.Ray k) /\ (∀ i,i < P.m -> wX P r.Ray i = 0) /\ cxP P r.Ray < 0)
def Crn (P:PF) (x:List Rat):Prop:=∀ c:Nat -> Rat,(∀ k,k < P.n -> lF x k = 0 -> c k = 0) -> (∀ i,i < P.m -> OB P.n (fun k=>P.a i k * c k) = 0) -> ∀ k,k < P.n -> c k = 0
theorem sd_m (P:PF):(qC P).m = P.m:=rfl
theorem sd_n (P:PF):(qC P).n = P.n:=rfl
theorem WF (P:PF) (i:Nat) (x:Rat):rF P i x = rF P i 1 * x:=by unfold rF;split <;> grind
theorem sgn_sq (P:PF) (i:Nat):rF P i 1 * rF P i 1 = 1:=by unfold rF;split <;> grind
theorem sgn_b (P:PF) (i:Nat):0 <= rF P i (P.b i):=by unfold rF;split <;> grind
theorem OJ (P:PF):(qC P).Wf:=by
 refine ⟨by show List.length (List.map _ _) = _;rw [eA,List.length_range];rfl,fun k hk=>?_,by show List.length (List.map _ _) = _;rw [eA,List.length_range];rfl⟩
 show (List.getD (List.map _ _) k []).length = _
 rw [dD P.n _ k [] hk,eA,List.length_range]
 rfl
theorem sd_col (P:PF) {k i:Nat} (hk:k < P.n) (hi:i < P.m):(OC (qC P) k).getD i 0 = rF P i (P.a i k):=by
 unfold OC
 rw [if_neg (show ¬ (qC P).n <= k from fun h=>by have:P.n <= k:=h;omega)]
 show (List.getD (List.map _ _) k []).getD i 0 = _
 rw [dD P.n _ k [] hk,dD P.m _ i 0 hi]
theorem sd_own (P:PF) {j i:Nat} (hi:i < P.m):(OC (qC P) (P.n + j)).getD i 0 = if i = j then 1 else 0:=by
 unfold OC
 rw [if_pos (show (qC P).n <= P.n + j from Nat.le_add_right _ _),show P.n + j - (qC P).n = j by show P.n + j - P.n = j;omega]
 exact jP P.m j hi
theorem sd_b (P:PF) {i:Nat} (hi:i < P.m):(qC P).b.getD i 0 = rF P i (P.b i):=dD P.m _ i 0 hi
theorem costs_at (P:PF) {k:Nat} (hk:k < P.n):(JC P).getD k 0 = P.c k:=dD P.n P.c k 0 hk
theorem zeros_at (P:PF) (k:Nat):(lC P).getD k 0 = 0:=by
 unfold lC
 rw [bA,List.getElem?_replicate]
 split <;> rfl
theorem UM (P:PF) (l:List Rat):(mG P l).length = l.length:=by unfold mG;rw [eA,List.length_range]
theorem turns_at (P:PF) (l:List Rat) {i:Nat} (hi:i < l.length):lF (mG P l) i = rF P i (lF l i):=dD l.length _ i 0 hi
theorem zN (P:PF) {y:List Rat} (hl:y.length = P.m) {k:Nat} (hk:k < P.n):colY P (mG P y) k = OB P.m (fun i=>(OC (qC P) k).getD i 0 * lF y i):=by
 unfold colY
 refine dB (fun i hi=>?_)
 rw [turns_at P y (by omega),sd_col P hk hi,WF P i (lF y i),WF P i (P.a i k)]
 grind
theorem qT (P:PF) {y:List Rat} (hl:y.length = P.m):ybP P (mG P y) = OB P.m (fun i=>(qC P).b.getD i 0 * lF y i):=by
 unfold ybP
 refine dB (fun i hi=>?_)
 rw [turns_at P y (by omega),sd_b P hi,WF P i (lF y i),WF P i (P.b i)]
 grind
theorem dot_b (P:PF) {y:List Rat} (hl:y.length = P.m):LH y (qC P).b = OB P.m (fun i=>(qC P).b.getD i 0 * lF y i):=by
 unfold LH
 rw [hl,(OJ P).bl,show (qC P).m = P.m from rfl,Nat.min_self]
 exact dB (fun i _=>Rat.mul_comm _ _)
theorem row_of (P:PF) {x:List Rat} {i:Nat} (hi:i < P.m) {q:Rat} (h:OB P.n (fun v=>(OC (qC P) v).getD i 0 * lF x v) = rF P i q):wX P x i = q:=by
 have e:OB P.n (fun v=>(OC (qC P) v).getD i 0 * lF x v) = rF P i 1 * wX P x i:=by
  unfold wX
  rw [<- XM]
  exact dB (fun v hv=>by rw [sd_col P hv hi,WF P i (P.a i v),Rat.mul_assoc])
 rw [e,WF P i q] at h
 have h2:rF P i 1 * (rF P i 1 * wX P x i) = rF P i 1 * (rF P i 1 * q):=by rw [h]
 rw [<- Rat.mul_assoc,<- Rat.mul_assoc,sgn_sq,Rat.one_mul,Rat.one_mul] at h2
 exact h2
theorem KK {S:SD} {costs:List Rat} {own:Rat} {bs:List Nat} (h:S.Wf) (hb:BOk S bs) {v d:Nat -> Rat} (hd:∀ i,i < S.m -> OB S.m (fun j=>(OC S (HD bs j)).getD i 0 * d j) = v i) :
  OB S.m (fun j=>zD S costs own (HD bs j) * d j) = OB S.m (fun i=>v i * lF (yL S costs own bs) i):=by
 have e1:∀ j,j < S.m -> zD S costs own (HD bs j) * d j = OB S.m (fun i=>(OC S (HD bs j)).getD i 0 * d j * lF (yL S costs own bs) i):=fun j hj=>by
  rw [<- y_sol h costs own hb j hj,<- AE]
  exact dB (fun i _=>by grind)
 rw [dB e1,oH]
 exact dB (fun i hi=>by rw [AE,hd i hi])
theorem AG {S:SD} {costs:List Rat} {own:Rat} {bs:List Nat} {d:List Rat} (h:mE S costs own bs = .fin QA d):JH S costs (yL S costs own bs) = QA /\ d = []:=by
 unfold mE at h
 split at h
 ·rename_i he;cases h;exact ⟨he,rfl⟩
 ·split at h <;> cases h
theorem zG {S:SD} {costs:List Rat} {own:Rat} {bs:List Nat} {d:List Rat} {k:Nat} (hw:S.Wf) (hb:BOk S bs) (h:mE S costs own bs = .fin (PA k) d) :
  JH S costs (yL S costs own bs) = PA k /\ d = dL S bs k /\ ∀ j,j < S.m -> lF (dL S bs k) j <= 0:=by
 unfold mE at h
 split at h
 ·cases h
 ·rename_i k1 he
  split at h
  ·rename_i hl
   cases h
   refine ⟨he,rfl,fun j hj=>?_⟩
   unfold oK at hl
   rw [Option.map_eq_none_iff] at hl
   exact HL hl j (by rw [x_len hw hb];exact hj)
  ·cases h
theorem sumR_nn' {n:Nat} {f:Nat -> Rat} (h:∀ i,i < n -> 0 <= f i):0 <= OB n f:=by
 induction n with
 | zero=>exact Rat.le_refl
 | succ n ih =>
  have h1:=ih (fun i hi=>h i (by omega))
  have h2:=h n (by omega)
  show 0 <= OB n f + f n
  grind
theorem sumR_np {n:Nat} {f:Nat -> Rat} (h:∀ i,i < n -> f i <= 0):OB n f <= 0:=by
 induction n with
 | zero=>exact Rat.le_refl
 | succ n ih =>
  have h1:=ih (fun i hi=>h i (by omega))
  have h2:=h n (by omega)
  show OB n f + f n <= 0
  grind
theorem YM {n:Nat} {f:Nat -> Rat} (h:∀ i,i < n -> 0 <= f i) (hs:OB n f <= 0):∀ i,i < n -> f i = 0:=by
 induction n with
 | zero=>intro i hi;omega
 | succ n ih =>
  have h1:0 <= OB n f:=sumR_nn' (fun i hi=>h i (by omega))
  have h2:=h n (by omega)
  have h3:OB n f + f n <= 0:=hs
  intro i hi
  by_cases e:i = n
  ·subst e;grind
  ·exact ih (fun i hi=>h i (by omega)) (by grind) i (by omega)
theorem mul_np {x y:Rat} (hx:0 <= x) (hy:y <= 0):x * y <= 0:=by
 have:=Rat.mul_nonneg hx (show 0 <= -y by grind)
 grind
theorem crn_of {P:PF} {bs:List Nat} (hb:BOk (qC P) bs) (x:List Rat):Crn P (cC (qC P) bs x):=by
 intro c hc hs k hk
 have hz:∀ v,v < P.n -> ¬ bK P.m (HD bs) v -> c v = 0:=fun v hv hn=>hc v hv (by
  show (cC (qC P) bs x).getD v 0 = 0
  rw [CG hb x hv];exact bG _ hn)
 let c':Nat -> Rat:=fun v=>if v < P.n then c v else 0
 have hf:∀ v,v < P.n + P.m -> GD P.m (HD bs) (fun j=>c' (HD bs j)) v = c' v:=fun v hv=>by
  by_cases h:bK P.m (HD bs) v
  ·obtain ⟨j,hj,rfl⟩:=h
   exact TO (fun i j hi hj e=>bF.inj (A:=fun v r=>(OC (qC P) v).getD r 0) hb.ind hi hj e) _ hj
  ·rw [bG _ h]
   show 0 = if v < P.n then c v else 0
   split
   ·rename_i h1;exact (hz v h1 h).symm
   ·rfl
 have h0:=hb.ind (fun j=>c' (HD bs j)) (fun i hi=>by
  rw [<- xH (N:=P.n + P.m) (bs:=HD bs) (fun j hj=>hb.lt j hj) (fun j=>c' (HD bs j)) (fun v=>(OC (qC P) v).getD i 0)]
  have e1:OB (P.n + P.m) (fun v=>(OC (qC P) v).getD i 0 * GD (qC P).m (HD bs) (fun j=>c' (HD bs j)) v) = OB (P.n + P.m) (fun v=>(OC (qC P) v).getD i 0 * c' v):=dB (fun v hv=>by have:=hf v hv;rw [show (qC P).m = P.m from rfl,this])
  have e2:OB (P.n + P.m) (fun v=>(OC (qC P) v).getD i 0 * c' v) = OB P.n (fun v=>(OC (qC P) v).getD i 0 * c' v):=nP P.m (fun v h1 _=>by
   show (OC (qC P) v).getD i 0 * (if v < P.n then c v else 0) = 0
   rw [if_neg (by omega),Rat.mul_zero])
  have e3:OB P.n (fun v=>(OC (qC P) v).getD i 0 * c' v) = OB P.n (fun v=>rF P i 1 * (P.a i v * c v)):=dB (fun v hv=>by
   show (OC (qC P) v).getD i 0 * (if v < P.n then c v else 0) = _
   rw [sd_col P hv hi,WF P i (P.a i v),if_pos hv,Rat.mul_assoc])
  rw [e1,e2,e3,XM,hs i hi,Rat.mul_zero])
 by_cases h:bK P.m (HD bs) k
 ·obtain ⟨j,hj,rfl⟩:=h
  have:=h0 j hj
  have e:c' (HD bs j) = c (HD bs j):=if_pos hk
  rw [<- e];exact this
 ·exact hz k hk h
theorem feas_x {P:PF} {bs:List Nat} (hb:COk (qC P) bs) (hz:Zer (qC P) bs):R8 P (cC (qC P) bs (xL (qC P) bs)):=by
 refine ⟨IF _ _ _,fun k hk=>?_,fun i hi=>row_of P hi ?_⟩
 ·show 0 <= (cC _ _ _).getD k 0
  rw [CG hb.toBOk _ hk]
  exact full_nn hb.pos k
 ·rw [show P.n = (qC P).n from rfl]
  rw [show (fun v=>(OC (qC P) v).getD i 0 * lF (cC (qC P) bs (xL (qC P) bs)) v) = (fun v=>(OC (qC P) v).getD i 0 * (cC (qC P) bs (xL (qC P) bs)).getD v 0) from rfl,tL hb.toBOk _ hz (fun v=>(OC (qC P) v).getD i 0),KJ (OJ P) hb.toBOk i hi,sd_b P hi]
theorem HM (P:PF) {v:Nat} (h:v < P.n) (own:Rat):zD (qC P) (JC P) own v = P.c v:=by
 unfold zD;rw [sd_n,if_neg (show ¬ P.n <= v by omega),costs_at P h]
theorem cx_spread {P:PF} {bs:List Nat} (hb:BOk (qC P) bs) (l:List Rat) (hz:∀ j,j < P.m -> P.n <= HD bs j -> lF l j = 0) (own:Rat):cxP P (cC (qC P) bs l) = OB P.m (fun j=>zD (qC P) (JC P) own (HD bs j) * lF l j):=by
 have h:=tL hb l hz (zD (qC P) (JC P) own)
 rw [sd_m,sd_n] at h
 rw [<- h]
 unfold cxP
 exact dB (fun v hv=>by rw [HM P hv];rfl)
theorem prov_end {P:PF} {bs:List Nat} (hb:COk (qC P) bs) (hc:AK (qC P) bs) {k:Option Nat} {d:List Rat} (hs:mE (qC P) (JC P) 0 bs = .fin k d) (rem:Nat) :
  ZR P (ZK P bs (yL (qC P) (JC P) 0 bs) k d rem):=by
 have hw:=OJ P
 have hz:=hc.zer hw hb.toBOk
 have hyl:=NN hw (JC P) 0 hb.toBOk
 cases k with
 | none =>
  obtain ⟨he,_⟩:=AG hs
  have hn:=IL hw hb.toBOk he
  dsimp only [ZK]
  refine .inl ⟨rfl,feas_x hb hz,by rw [UM];exact hyl,fun k hk=>?_,?_,rfl⟩
  ·rw [zN P hyl hk]
   have h1:0 <= zD (qC P) (JC P) 0 k - OB P.m (fun i=>(OC (qC P) k).getD i 0 * lF (yL (qC P) (JC P) 0 bs) i):=hn k hk
   rw [HM P hk] at h1
   grind
  ·rw [qT P hyl,cx_spread hb.toBOk _ hz 0]
   exact (KK hw hb.toBOk (KJ hw hb.toBOk)).symm
 | some k =>
  obtain ⟨he,rfl,hd⟩:=zG hw hb.toBOk hs
  obtain ⟨hk,hr,_⟩:=tG hw hb.toBOk he
  have hk':k < P.n:=hk
  have pD:=US hw hb.toBOk hk
  have hdz:∀ j,j < (qC P).m -> (qC P).n <= HD bs j -> lF (yC (dL (qC P) bs k) (-1)) j = 0:=fun j hj hn=>by
   show (yC _ _).getD j 0 = 0
   rw [BH]
   have:=hc.dz hw hb.toBOk hk hj hn
   show lF (dL (qC P) bs k) j * -1 = 0
   rw [this,Rat.zero_mul]
  have hkout:¬ bK P.m (HD bs) k:=fun h=>by
   have:=(hb.dic hw (JC P) 0).red_zero h
   rw [this] at hr
   exact absurd hr (by decide)
  have hset:∀ v,v < P.n -> lF ((cC (qC P) bs (yC (dL (qC P) bs k) (-1))).set k 1) v = (if k = v then 1 else 0) + (cC (qC P) bs (yC (dL (qC P) bs k) (-1))).getD v 0:=fun v hv=>by
   show (List.set _ _ _).getD v 0 = _
   rw [RK _ _ _ _ _ (by rw [IF];exact hk)]
   by_cases e:v = k
   ·subst e;rw [if_pos rfl,if_pos rfl,CG hb.toBOk _ hk,sd_m,bG _ hkout,Rat.add_zero]
   ·rw [if_neg e,if_neg (fun h=>e h.symm),Rat.zero_add]
  have hsum:∀ g:Nat -> Rat,OB P.n (fun v=>g v * lF ((cC (qC P) bs (yC (dL (qC P) bs k) (-1))).set k 1) v) = g k + OB P.m (fun j=>g (HD bs j) * lF (dL (qC P) bs k) j) * (-1):=fun g=>by
   rw [dB (g:=fun v=>(if k = v then g v else 0) + g v * (cC (qC P) bs (yC (dL (qC P) bs k) (-1))).getD v 0) (fun v hv=>by rw [hset v hv];split <;> grind),cM,WC,if_pos hk']
   have:=tL hb.toBOk (yC (dL (qC P) bs k) (-1)) hdz g
   rw [show P.n = (qC P).n from rfl,this,<- AE]
   congr 1
   refine dB (fun j _=>?_)
   show g (HD bs j) * (yC _ _).getD j 0 = _
   rw [BH]
   show g (HD bs j) * (lF (dL (qC P) bs k) j * -1) = _
   grind
  dsimp only [ZK]
  refine .inr (.inr ⟨rfl,rfl,feas_x hb hz,by rw [List.length_set];exact IF _ _ _,fun v hv=>?_,fun i hi=>row_of P hi ?_,?_⟩)
  ·rw [hset v hv,CG hb.toBOk _ hv]
   have:0 <= GD (qC P).m (HD bs) (lF (yC (dL (qC P) bs k) (-1))) v:=full_nn (fun j hj=>by
    show 0 <= (yC _ _).getD j 0
    rw [BH]
    have:=hd j hj
    show 0 <= lF (dL (qC P) bs k) j * -1
    grind) v
   split <;> grind
  ·rw [hsum (fun v=>(OC (qC P) v).getD i 0)]
   have:=pD i hi
   show (OC (qC P) k).getD i 0 + OB (qC P).m (fun j=>(OC (qC P) (HD bs j)).getD i 0 * lF (dL (qC P) bs k) j) * (-1) = _
   rw [this,WF,Rat.mul_zero]
   grind
  ·have h1:=hsum P.c
   have h2:cxP P ((cC (qC P) bs (yC (dL (qC P) bs k) (-1))).set k 1) = _:=h1
   rw [h2]
   have h3:OB P.m (fun j=>P.c (HD bs j) * lF (dL (qC P) bs k) j) = OB (qC P).m (fun j=>zD (qC P) (JC P) 0 (HD bs j) * lF (dL (qC P) bs k) j):=dB (fun j hj=>by
    by_cases hn:HD bs j < P.n
    ·rw [HM P hn]
    ·have:=hc.dz hw hb.toBOk hk hj (show P.n <= HD bs j by omega)
     rw [this,Rat.mul_zero,Rat.mul_zero])
   rw [h3,KK hw hb.toBOk pD]
   have h4:zD (qC P) (JC P) 0 k - OB P.m (fun i=>(OC (qC P) k).getD i 0 * lF (yL (qC P) (JC P) 0 bs) i) < 0:=hr
   rw [HM P hk'] at h4
   show P.c k + OB P.m (fun i=>(OC (qC P) k).getD i 0 * lF (yL (qC P) (JC P) 0 bs) i) * (-1) < 0
   grind
def AI (P:PF):Nat:=jR (P.n + P.m) P.m
theorem second_main {P:PF} {bs:List Nat} (hb:COk (qC P) bs) (hc:AK (qC P) bs) :
  ∃ r T,T < AI P /\ ZR P r /\ r.v ≠ 2 /\ Crn P r.X /\ r.bs.length = P.m /\ ∀ rem,jI P rem bs = if T <= rem then PA { r with rem:=rem - T } else QA:=by
 have hw:=OJ P
 obtain ⟨h1,h2⟩:=GK hw (costs:=JC P) (own:=0) hb (rem:=AI P) (EA _)
 obtain ⟨g1,g2,g3,_,g5⟩:=OE hw (costs:=JC P) (own:=0) (AK (qC P)) (fun bs k a hb hj hs=>hj.step hw hb hs) (AI P) bs hb hc
 obtain ⟨m1,m2,m3⟩:=fK (S:=qC P) (costs:=JC P) (own:=0) (AI P) bs h1
 rcases g5 with ⟨_,g6,g7⟩ | ⟨g6,_⟩
 ·have hp:=prov_end g1 g2 g6 0
  have h2':AI P - (tC (qC P) (JC P) 0 (AI P) bs).rem + 1 <= AI P:=h2
  generalize hT:AI P - (tC (qC P) (JC P) 0 (AI P) bs).rem = T at m2 m3 h2'
  generalize hO:tC (qC P) (JC P) 0 (AI P) bs = O at *
  rw [<- g7] at hp
  refine ⟨ZK P O.bs O.y O.k O.d 0,T,by omega,hp,?_,?_,?_,fun rem=>?_⟩
  ·unfold ZK;cases O.k <;> simp
  ·have:=crn_of g1.toBOk (xL (qC P) O.bs)
   unfold ZK
   cases O.k <;> exact this
  ·have:O.bs.length = P.m:=g1.len
   unfold ZK
   cases O.k <;> exact this
  ·unfold jI
   by_cases hle:T <= rem
   ·rw [if_pos hle,m2 rem hle]
    dsimp only [endO]
    rw [h1]
    unfold ZK
    cases O.k <;> rfl
   ·rw [if_neg hle,m3 rem (by omega)]
    rfl
 ·rw [h1] at g6;cases g6
theorem bs0_at (P:PF) {j:Nat} (hj:j < P.m):HD (cE P) j = P.n + j:=dD P.m _ j 0 hj
theorem cok0 (P:PF):COk (qC P) (cE P):=by
 have hB:BOk (qC P) (cE P):=by
  refine ⟨by unfold cE;rw [eA,List.length_range];rfl,fun j hj=>?_,fun c hc j hj=>?_⟩
  ·have:HD (cE P) j = P.n + j:=bs0_at P hj
   show HD (cE P) j < P.n + P.m
   rw [this]
   have:j < P.m:=hj
   omega
  ·have:=hc j hj
   rw [dB (g:=fun i=>if j = i then c i else 0) (fun i hi=>by
    show (OC (qC P) (HD (cE P) i)).getD j 0 * c i = _
    rw [bs0_at P hi,sd_own P hj]
    by_cases e:j = i
    ·rw [if_pos e,if_pos e,Rat.one_mul]
    ·rw [if_neg e,if_neg e,Rat.zero_mul]),WC,if_pos hj] at this
   exact this
 refine ⟨hB,fun j hj=>?_⟩
 have:=KJ (OJ P) hB j hj
 rw [dB (g:=fun i=>if j = i then lF (xL (qC P) (cE P)) i else 0) (fun i hi=>by
  rw [bs0_at P hi,sd_own P hj]
  by_cases e:j = i
  ·rw [if_pos e,if_pos e,Rat.one_mul]
  ·rw [if_neg e,if_neg e,Rat.zero_mul]),WC,if_pos hj,sd_b P hj] at this
 rw [this]
 exact sgn_b P j
theorem KL (P:PF) (v:Nat):zD (qC P) (lC P) 1 v = if P.n <= v then 1 else 0:=by
 unfold zD
 show (if P.n <= v then _ else _) = _
 split
 ·rfl
 ·exact zeros_at P v
theorem WI (P:PF) (v:Nat):0 <= zD (qC P) (lC P) 1 v:=by rw [KL];split <;> decide
theorem NQ {P:PF} {bs:List Nat} (hb:COk (qC P) bs) {k:Option Nat} {d:List Rat} (hs:mE (qC P) (lC P) 1 bs = .fin k d):k = QA:=by
 cases k with
 | none=>rfl
 | some k =>
  exfalso
  have hw:=OJ P
  obtain ⟨he,rfl,hd⟩:=zG hw hb.toBOk hs
  obtain ⟨hk,hr,_⟩:=tG hw hb.toBOk he
  have h1:zD (qC P) (lC P) 1 k - OB P.m (fun i=>(OC (qC P) k).getD i 0 * lF (yL (qC P) (lC P) 1 bs) i) < 0:=hr
  have h2:=KK (costs:=lC P) (own:=1) hw hb.toBOk (US hw hb.toBOk hk)
  have h3:OB (qC P).m (fun j=>zD (qC P) (lC P) 1 (HD bs j) * lF (dL (qC P) bs k) j) <= 0:=sumR_np (fun j hj=>mul_np (WI P _) (hd j hj))
  have h4:=WI P k
  have h5:OB P.m (fun i=>(OC (qC P) k).getD i 0 * lF (yL (qC P) (lC P) 1 bs) i) <= 0:=by
   have:OB (qC P).m (fun i=>(OC (qC P) k).getD i 0 * lF (yL (qC P) (lC P) 1 bs) i) <= 0:=by rw [<- h2];exact h3
   exact this
  grind
theorem rP (P:PF):∃ r T,T + 1 < 2 * AI P + 1 /\ ZR P r /\ (r.v = 2 \/ Crn P r.X) /\ r.bs.length = P.m /\ ∀ rem,zH P rem = if T <= rem then PA { r with rem:=rem - T } else QA:=by
 have hw:=OJ P
 have hb:=cok0 P
 obtain ⟨h1,h2⟩:=GK hw (costs:=lC P) (own:=1) hb (rem:=AI P) (EA _)
 obtain ⟨g1,_,g3,_,g5⟩:=OE hw (costs:=lC P) (own:=1) (fun _=>True) (fun _ _ _ _ _ _=>trivial) (AI P) (cE P) hb trivial
 obtain ⟨m1,m2,m3⟩:=fK (S:=qC P) (costs:=lC P) (own:=1) (AI P) (cE P) h1
 rcases g5 with ⟨_,g6,g7⟩ | ⟨g6,_⟩
 ·have h2':AI P - (tC (qC P) (lC P) 1 (AI P) (cE P)).rem + 1 <= AI P:=h2
  generalize hT:AI P - (tC (qC P) (lC P) 1 (AI P) (cE P)).rem = T at m2 m3 h2'
  have hk:=NQ g1 g6
  rw [hk] at g6
  obtain ⟨he,_⟩:=AG g6
  have hn:=IL hw g1.toBOk he
  generalize hO:tC (qC P) (lC P) 1 (AI P) (cE P) = O at *
  have hyl:O.y.length = P.m:=by rw [g7];exact NN hw _ _ g1.toBOk
  have hcost:OB (qC P).m (fun j=>zD (qC P) (lC P) 1 (HD O.bs j) * lF (xL (qC P) O.bs) j) = LH O.y (qC P).b:=by
   rw [dot_b P hyl,KK hw g1.toBOk (KJ hw g1.toBOk),g7]
   rfl
  by_cases hpos:0 < LH O.y (qC P).b
  ·refine ⟨⟨2,[],mG P O.y,[],O.bs,0⟩,T,by omega,.inr (.inl ⟨rfl,rfl,rfl,by rw [UM];exact hyl,fun k hk=>?_,?_⟩),.inl rfl,g1.len,fun rem=>?_⟩
   ·rw [zN P hyl hk,g7]
    have h3:0 <= zD (qC P) (lC P) 1 k - OB P.m (fun i=>(OC (qC P) k).getD i 0 * lF (yL (qC P) (lC P) 1 O.bs) i):=hn k hk
    rw [KL,if_neg (by omega)] at h3
    grind
   ·rw [qT P hyl,<- dot_b P hyl];exact hpos
   ·unfold zH
    by_cases hle:T <= rem
    ·rw [if_pos hle,m2 rem hle]
     dsimp only
     rw [h1,if_pos hpos]
     rfl
    ·rw [if_neg hle,m3 rem (by omega)]
     rfl
  ·have hz:Zer (qC P) O.bs:=fun j hj hn=>by
    have hs:OB (qC P).m (fun j=>zD (qC P) (lC P) 1 (HD O.bs j) * lF (xL (qC P) O.bs) j) <= 0:=by rw [hcost];exact Rat.not_lt.1 hpos
    have:=YM (fun j hj=>Rat.mul_nonneg (WI P _) (g1.pos j hj)) hs j hj
    rw [KL,if_pos (show P.n <= HD O.bs j from hn),Rat.one_mul] at this
    exact this
   obtain ⟨c1,c2,c3⟩:=vG hw g1 hz P.m (EA _)
   have hcalm:=calm_of hw c1 c2 c3
   obtain ⟨r,T2,t1,t2,t3,t4,t5,t6⟩:=second_main c1 hcalm
   refine ⟨r,T + T2,by omega,t2,.inr t4,t5,fun rem=>?_⟩
   unfold zH
   by_cases hle:T <= rem
   ·rw [m2 rem hle]
    dsimp only
    rw [h1,if_neg hpos,t6]
    by_cases h3:T2 <= rem - T
    ·have h4:T + T2 <= rem:=Nat.add_le_of_le_sub' hle h3
     rw [if_pos h3,if_pos h4,Nat.sub_sub]
     rfl
    ·have h4:¬ T + T2 <= rem:=fun h=>h3 (Nat.le_sub_of_add_le' h)
     rw [if_neg h3,if_neg h4]
     rfl
   ·rw [if_neg (fun h=>hle (GA (Nat.le_add_right _ _) h)),m3 rem (Nat.lt_of_not_le hle)]
    rfl
 ·rw [h1] at g6;cases g6
end Go.Off
namespace Go.Off
theorem AK.keeps {S:SD} (h:S.Wf) {costs:List Rat} {own:Rat} {bs:List Nat} {k a:Nat} (hb:COk S bs) (hc:AK S bs) (hs:mE S costs own bs = .go k a) {v:Nat} (hv:S.n <= v) :
  bK S.m (HD (bs.set a k)) v ↔ bK S.m (HD bs) v:=by
 have hp:=DL h hb.toBOk hs
 have ha:a < S.m:=hp.al
 have hk:k < S.n:=hp.kn
 have hba:HD bs a < S.n:=by
  rcases Nat.lt_or_ge (HD bs a) S.n with h1 | h1
  ·exact h1
  ·have h2:=hc.dz h hb.toBOk hk ha h1
   have h3:0 < lF (dL S bs k) a:=hp.dpos
   rw [h2] at h3
   exact absurd h3 (by decide)
 constructor
 ·rintro ⟨j,hj,e⟩
  rw [mJ hb.len ha] at e
  split at e
  ·omega
  ·exact ⟨j,hj,e⟩
 ·rintro ⟨j,hj,e⟩
  refine ⟨j,hj,?_⟩
  rw [mJ hb.len ha]
  split
  ·rename_i h1;rw [h1] at e;omega
  ·exact e
theorem run_calm {S:SD} (h:S.Wf) {costs:List Rat} {own:Rat}:∀ (rem:Nat) (bs:List Nat),COk S bs -> AK S bs ->
  ∃ fb fx fy fk fa fd,fb 0 = HD bs /\ Trace (BQ S costs own) (rem - (tC S costs own rem bs).rem) fb fx fy fk fa fd /\ ∀ t,t <= rem - (tC S costs own rem bs).rem -> ∀ v,S.n <= v -> (bK S.m (fb t) v ↔ bK S.m (HD bs) v)
 | 0,bs,hb,hj=>by
  refine ⟨fun _=>HD bs,fun _=>lF (xL S bs),fun _=>lF (yL S costs own bs),fun _=>0,fun _=>0,fun _ _=>0,rfl,?_,fun t _ v _=>Iff.rfl⟩
  rw [Nat.zero_sub]
  exact ⟨fun t _=>hb.dic h costs own,fun t ht=>by omega⟩
 | r + 1,bs,hb,hj=>by
  unfold tC
  split
  ·rename_i k d hs
   refine ⟨fun _=>HD bs,fun _=>lF (xL S bs),fun _=>lF (yL S costs own bs),fun _=>0,fun _=>0,fun _ _=>0,rfl,?_,fun t _ v _=>Iff.rfl⟩
   rw [Nat.sub_self]
   exact ⟨fun t _=>hb.dic h costs own,fun t ht=>by omega⟩
  ·rename_i k a hs
   obtain ⟨_,_,h3,_⟩:=OE h (costs:=costs) (own:=own) (fun _=>True) (fun _ _ _ _ _ _=>trivial) r (bs.set a k) (hb.next h hs) trivial
   obtain ⟨fb,fx,fy,fk,fa,fd,h4,h5,h6⟩:=run_calm h (costs:=costs) (own:=own) r (bs.set a k) (hb.next h hs) (hj.step h hb hs)
   have hp:=DL h hb.toBOk hs
   rw [<- h4] at hp
   have ht:=h5.cons (hb.dic h costs own) hp
   have e:r - (tC S costs own r (bs.set a k)).rem + 1 = r + 1 - (tC S costs own r (bs.set a k)).rem:=by omega
   rw [e] at ht
   refine ⟨_,_,_,_,_,_,rfl,ht,fun t ht v hv=>?_⟩
   match t,ht with
   | 0,_=>exact Iff.rfl
   | t + 1,ht=>exact (h6 t (by omega) v hv).trans (hj.keeps h hb hs hv)
theorem ZS {n:Nat} {P Q:Nat -> Bool}:∀ N,n <= N -> (∀ v,n <= v -> v < N -> P v = Q v) -> dI N P + dI n Q = dI N Q + dI n P
 | 0,h0,_=>by
  obtain rfl:n = 0:=by omega
  rfl
 | N + 1,h0,h=>by
  by_cases e:n = N + 1
  ·subst e;omega
  ·have ih:=ZS (n:=n) (P:=P) (Q:=Q) N (by omega) (fun v h1 h2=>h v h1 (by omega))
   have h1:=h N (by omega) (by omega)
   show dI N P + (if P N then 1 else 0) + _ = dI N Q + (if Q N then 1 else 0) + _
   rw [h1];omega
theorem cnt_mono {P:Nat -> Bool} (n:Nat):∀ k,dI n P <= dI (n + k) P
 | 0=>EA _
 | k + 1=>GA (cnt_mono n k) (by show _ <= dI (n + k) P + _;omega)
theorem Trace.short2 {p:LP} {T:Nat} {bs:Nat -> Nat -> Nat} {x y:Nat -> Nat -> Rat} {k a:Nat -> Nat} {d:Nat -> Nat -> Rat} (h:Trace p T bs x y k a d)
  (hk:∀ t,t <= T -> ∀ v,p.n <= v -> (bK p.m (bs t) v ↔ bK p.m (bs 0) v)):∃ c,c <= p.m /\ T + 1 <= jR p.n c:=by
 have hD0:=h.dic 0 (fN _)
 have hall:∀ t,t <= T -> dI (p.n + p.m) (XJ p.m (bs t)) = p.m:=fun t ht=>by
  have hD:=h.dic t ht
  exact YS hD.lt hD.inj
 have heq:∀ t,t <= T -> ∀ v,p.n <= v -> XJ p.m (bs t) v = XJ p.m (bs 0) v:=fun t ht v hv=>by
  have:=hk t ht v hv
  rw [<- EG,<- EG] at this
  exact Bool.eq_iff_iff.2 this
 have hc:∀ t,t <= T -> dI p.n (XJ p.m (bs t)) = dI p.n (XJ p.m (bs 0)):=fun t ht=>by
  have h1:=ZS (n:=p.n) (P:=XJ p.m (bs t)) (Q:=XJ p.m (bs 0)) (p.n + p.m) (by omega) (fun v h1 _=>heq t ht v h1)
  rw [hall t ht,hall 0 (fN _)] at h1
  omega
 refine ⟨dI p.n (XJ p.m (bs 0)),?_,?_⟩
 ·have:=cnt_mono (P:=XJ p.m (bs 0)) p.n p.m
  rw [hall 0 (fN _)] at this
  exact this
 ·rw [<- HI]
  refine pigeon (T + 1) _ (fun t=>aJ p.n (XJ p.m (bs t))) (fun t ht=>?_) (fun s t hst ht he=>?_)
  ·have:=BN p.n (XJ p.m (bs t))
   rwa [hc t (by omega)] at this
  ·refine h.no_cycle hst (show t <= T by omega) (fun v=>?_)
   rcases Nat.lt_or_ge v p.n with hv | hv
   ·have:=CN _ _ _ he v hv
    rw [<- EG,<- EG,this]
   ·rw [hk s (by omega) v hv,hk t (by omega) v hv]
theorem calm_short {S:SD} (h:S.Wf) {costs:List Rat} {own:Rat} (rem:Nat) (bs:List Nat) (hb:COk S bs) (hc:AK S bs):∃ c,c <= S.m /\ rem - (tC S costs own rem bs).rem + 1 <= jR S.n c:=by
 obtain ⟨fb,fx,fy,fk,fa,fd,h1,h2,h3⟩:=run_calm h (costs:=costs) (own:=own) rem bs hb hc
 refine h2.short2 (fun t ht v hv=>?_)
 have:=h3 t ht v hv
 rw [<- h1] at this
 exact this
theorem DT {P:PF} {bs:List Nat} (hb:COk (qC P) bs) (hc:AK (qC P) bs) :
  ∃ r T,(∃ c,c <= P.m /\ T + 1 <= jR P.n c) /\ ZR P r /\ r.v ≠ 2 /\ Crn P r.X /\ r.bs.length = P.m /\ ∀ rem,jI P rem bs = if T <= rem then PA { r with rem:=rem - T } else QA:=by
 have hw:=OJ P
 obtain ⟨h1,h2⟩:=GK hw (costs:=JC P) (own:=0) hb (rem:=AI P) (EA _)
 obtain ⟨g1,g2,g3,_,g5⟩:=OE hw (costs:=JC P) (own:=0) (AK (qC P)) (fun bs k a hb hj hs=>hj.step hw hb hs) (AI P) bs hb hc
 obtain ⟨m1,m2,m3⟩:=fK (S:=qC P) (costs:=JC P) (own:=0) (AI P) bs h1
 rcases g5 with ⟨_,g6,g7⟩ | ⟨g6,_⟩
 ·have hp:=prov_end g1 g2 g6 0
  obtain ⟨cc,q3,q4⟩:=calm_short hw (costs:=JC P) (own:=0) (AI P) bs hb hc
  have q2:AI P - (tC (qC P) (JC P) 0 (AI P) bs).rem + 1 <= jR P.n cc:=q4
  have q1:cc <= P.m:=q3
  generalize hT:AI P - (tC (qC P) (JC P) 0 (AI P) bs).rem = T at m2 m3 q2
  generalize hO:tC (qC P) (JC P) 0 (AI P) bs = O at *
  rw [<- g7] at hp
  refine ⟨ZK P O.bs O.y O.k O.d 0,T,⟨cc,q1,q2⟩,hp,?_,?_,?_,fun rem=>?_⟩
  ·unfold ZK;cases O.k <;> simp
  ·have:=crn_of g1.toBOk (xL (qC P) O.bs)
   unfold ZK
   cases O.k <;> exact this
  ·have:O.bs.length = P.m:=g1.len
   unfold ZK
   cases O.k <;> exact this
  ·unfold jI
   by_cases hle:T <= rem
   ·rw [if_pos hle,m2 rem hle]
    dsimp only [endO]
    rw [h1]
    unfold ZK
    cases O.k <;> rfl
   ·rw [if_neg hle,m3 rem (by omega)]
    rfl
 ·rw [h1] at g6;cases g6
theorem solve_main2 (P:PF):∃ r T,(∃ c,c <= P.m /\ T + 1 <= AI P + jR P.n c) /\ ZR P r /\ (r.v = 2 \/ Crn P r.X) /\ r.bs.length = P.m /\ ∀ rem,zH P rem = if T <= rem then PA { r with rem:=rem - T } else QA:=by
 have hw:=OJ P
 have hb:=cok0 P
 obtain ⟨h1,h2⟩:=GK hw (costs:=lC P) (own:=1) hb (rem:=AI P) (EA _)
 obtain ⟨g1,_,g3,_,g5⟩:=OE hw (costs:=lC P) (own:=1) (fun _=>True) (fun _ _ _ _ _ _=>trivial) (AI P) (cE P) hb trivial
 obtain ⟨m1,m2,m3⟩:=fK (S:=qC P) (costs:=lC P) (own:=1) (AI P) (cE P) h1
 rcases g5 with ⟨_,g6,g7⟩ | ⟨g6,_⟩
 ·have h2':AI P - (tC (qC P) (lC P) 1 (AI P) (cE P)).rem + 1 <= AI P:=h2
  generalize hT:AI P - (tC (qC P) (lC P) 1 (AI P) (cE P)).rem = T at m2 m3 h2'
  have hk:=NQ g1 g6
  rw [hk] at g6
  obtain ⟨he,_⟩:=AG g6
  have hn:=IL hw g1.toBOk he
  generalize hO:tC (qC P) (lC P) 1 (AI P) (cE P) = O at *
  have hyl:O.y.length = P.m:=by rw [g7];exact NN hw _ _ g1.toBOk
  have hcost:OB (qC P).m (fun j=>zD (qC P) (lC P) 1 (HD O.bs j) * lF (xL (qC P) O.bs) j) = LH O.y (qC P).b:=by
   rw [dot_b P hyl,KK hw g1.toBOk (KJ hw g1.toBOk),g7]
   rfl
  by_cases hpos:0 < LH O.y (qC P).b
  ·refine ⟨⟨2,[],mG P O.y,[],O.bs,0⟩,T,⟨0,fN _,by omega⟩,.inr (.inl ⟨rfl,rfl,rfl,by rw [UM];exact hyl,fun k hk=>?_,?_⟩),.inl rfl,g1.len,fun rem=>?_⟩
   ·rw [zN P hyl hk,g7]
    have h3:0 <= zD (qC P) (lC P) 1 k - OB P.m (fun i=>(OC (qC P) k).getD i 0 * lF (yL (qC P) (lC P) 1 O.bs) i):=hn k hk
    rw [KL,if_neg (by omega)] at h3
    grind
   ·rw [qT P hyl,<- dot_b P hyl];exact hpos
   ·unfold zH
    by_cases hle:T <= rem
    ·rw [if_pos hle,m2 rem hle]
     dsimp only
     rw [h1,if_pos hpos]
     rfl
    ·rw [if_neg hle,m3 rem (by omega)]
     rfl
  ·have hz:Zer (qC P) O.bs:=fun j hj hn=>by
    have hs:OB (qC P).m (fun j=>zD (qC P) (lC P) 1 (HD O.bs j) * lF (xL (qC P) O.bs) j) <= 0:=by rw [hcost];exact Rat.not_lt.1 hpos
    have:=YM (fun j hj=>Rat.mul_nonneg (WI P _) (g1.pos j hj)) hs j hj
    rw [KL,if_pos (show P.n <= HD O.bs j from hn),Rat.one_mul] at this
    exact this
   obtain ⟨c1,c2,c3⟩:=vG hw g1 hz P.m (EA _)
   have hcalm:=calm_of hw c1 c2 c3
   obtain ⟨r,T2,⟨cc,t0,t1⟩,t2,t3,t4,t5,t6⟩:=DT c1 hcalm
   refine ⟨r,T + T2,⟨cc,t0,by omega⟩,t2,.inr t4,t5,fun rem=>?_⟩
   unfold zH
   by_cases hle:T <= rem
   ·rw [m2 rem hle]
    dsimp only
    rw [h1,if_neg hpos,t6]
    by_cases h3:T2 <= rem - T
    ·have h4:T + T2 <= rem:=Nat.add_le_of_le_sub' hle h3
     rw [if_pos h3,if_pos h4,Nat.sub_sub]
     rfl
    ·have h4:¬ T + T2 <= rem:=fun h=>h3 (Nat.le_sub_of_add_le' h)
     rw [if_neg h3,if_neg h4]
     rfl
   ·rw [if_neg (fun h=>hle (GA (Nat.le_add_right _ _) h)),m3 rem (Nat.lt_of_not_le hle)]
    rfl
 ·rw [h1] at g6;cases g6
theorem ch_price2:∀ c,c <= 6 -> ∀ n,n <= 14 -> jR n c <= 3003:=by decide +kernel
theorem steps_price {n m:Nat} (hm:m <= 6) (hn:n <= 14) {T c:Nat} (hc:c <= m) (h:T + 1 <= jR (n + m) m + jR n c):T <= 41763:=by
 have h1:=ch_price m hm n hn
 have h2:=ch_price2 c (by omega) n hn
 omega
end Go.Off
namespace Go.Off
theorem dual_sum (P:PF) (y x:List Rat):OB P.n (fun k=>colY P y k * lF x k) = OB P.m (fun i=>lF y i * wX P x i):=by
 have e1:∀ k,k < P.n -> colY P y k * lF x k = OB P.m (fun i=>lF y i * P.a i k * lF x k):=fun k _=>by
  unfold colY;rw [AE]
 rw [dB e1,oH]
 refine dB (fun i _=>?_)
 unfold wX
 rw [<- XM]
 exact dB (fun k _=>by rw [Rat.mul_assoc])
theorem prov_no {P:PF} {r:SR} (h:ZR P r) (hv:r.v = 2) {x:List Rat} (hx:R8 P x):False:=by
 rcases h with ⟨h1,_⟩ | ⟨_,_,_,_,h4,h5⟩ | ⟨h1,_⟩
 ·omega
 ·have h6:OB P.n (fun k=>colY P r.Y k * lF x k) <= 0:=sumR_np (fun k hk=>by
   have:=mul_np (hx.2.1 k hk) (h4 k hk)
   rw [Rat.mul_comm];exact this)
  rw [dual_sum] at h6
  have e:OB P.m (fun i=>lF r.Y i * wX P x i) = ybP P r.Y:=dB (fun i hi=>by rw [hx.2.2 i hi])
  rw [e] at h6
  exact absurd h5 (Rat.not_lt.2 h6)
 ·omega
theorem prov_feas {P:PF} {r:SR} (h:ZR P r) (hv:r.v ≠ 2):R8 P r.X:=by
 rcases h with ⟨_,h2,_⟩ | ⟨h1,_⟩ | ⟨_,_,h2,_⟩
 ·exact h2
 ·exact absurd h1 hv
 ·exact h2
theorem prov_v {P:PF} {r:SR} (h:ZR P r):r.v = 1 \/ r.v = 2 \/ r.v = 3:=by
 rcases h with ⟨h1,_⟩ | ⟨h1,_⟩ | ⟨h1,_⟩
 ·exact .inl h1
 ·exact .inr (.inl h1)
 ·exact .inr (.inr h1)
def f7 (n:Nat) (x ray:List Rat) (t:Rat):List Rat:=(List.range n).map fun k=>lF x k + lF ray k * t
theorem y9 {n k:Nat} (hk:k < n) (x ray:List Rat) (t:Rat):lF (f7 n x ray t) k = lF x k + lF ray k * t:=dD n _ k 0 hk
theorem along_feas {P:PF} {x ray:List Rat} {t:Rat} (hx:R8 P x) (h1:∀ k,k < P.n -> 0 <= lF ray k) (h2:∀ i,i < P.m -> wX P ray i = 0) (ht:0 <= t):R8 P (f7 P.n x ray t):=by
 refine ⟨by unfold f7;rw [eA,List.length_range],fun k hk=>?_,fun i hi=>?_⟩
 ·rw [y9 hk]
  have:=Rat.mul_nonneg (h1 k hk) ht
  have:=hx.2.1 k hk
  grind
 ·rw [<- hx.2.2 i hi]
  have e:wX P (f7 P.n x ray t) i = wX P x i + wX P ray i * t:=by
   unfold wX
   rw [<- TF]
   exact dB (fun k hk=>by rw [y9 hk];grind)
  rw [e,h2 i hi,Rat.zero_mul,Rat.add_zero]
end Go.Off
namespace Go.Off
end Go.Off
