/- Ways that come together again: what stands behind a branch is walked once. -/
import Derived.Test.YtncgbjhojbnecaaA5
import Derived.Test.YtncgbjhojbnecaaB0
import Derived.Test.YtncgbjhojbnecaaMA
import Derived.Test.YtncgbjhojbnecaaSC
set_option linter.unusedSimpArgs false
set_option linter.unusedVariables false
set_option linter.unnecessarySimpa false
set_option linter.unusedSectionVars false
namespace Go.Am
open Go Go.RowKit Go.Off
variable {P:Program} {opn:List FuncId} {n0:Nat} {st:St} {Q:Exit -> St -> Prop} {GL:Glb} {S:St}
def joinA [Glb] (n0:Nat) (S:St) (e:Exit) (s:St):Prop:=e = .normal /\ Fgt n0 s S
theorem awp_jstep {x y:CC} {N:St -> Prop} (h:AWp P opn n0 x (thenA N (joinA n0 S)) st) (hn:∀ s,N s -> AWp P opn n0 y Q s):AWp P opn n0 (.seq x y) Q st :=
 awp_seq (h.mono (fun e s q=>by
  cases e with
  | normal=>exact hn s q
  | _=>exact absurd q.1 (by intro h;cases h)))
theorem awp_jend {x y:CC} (h:AWp P opn n0 x (joinA n0 S) st) (h2:AWp P opn n0 y Q S):AWp P opn n0 (.seq x y) Q st :=
 awp_seq (h.mono (fun e s q=>by obtain ⟨rfl,f⟩:=q;exact AWp.fgt h2 f))
theorem awp_join2 {a b z:CC} (h:AWp P opn n0 a (thenA (AWp P opn n0 b (joinA n0 S)) (joinA n0 S)) st) (h2:AWp P opn n0 z Q S):AWp P opn n0 (.seq a (.seq b z)) Q st :=
 awp_jstep h (fun _ h=>awp_jend h h2)
theorem awp_join3 {a b c z:CC} (h:AWp P opn n0 a (thenA (AWp P opn n0 b (thenA (AWp P opn n0 c (joinA n0 S)) (joinA n0 S))) (joinA n0 S)) st) (h2:AWp P opn n0 z Q S):AWp P opn n0 (.seq a (.seq b (.seq c z))) Q st :=
 awp_jstep h (fun _ h=>awp_join2 h h2)
theorem awp_join4 {a b c d z:CC} (h:AWp P opn n0 a (thenA (AWp P opn n0 b (thenA (AWp P opn n0 c (thenA (AWp P opn n0 d (joinA n0 S)) (joinA n0 S))) (joinA n0 S))) (joinA n0 S)) st) (h2:AWp P opn n0 z Q S):AWp P opn n0 (.seq a (.seq b (.seq c (.seq d z)))) Q st :=
 awp_jstep h (fun _ h=>awp_join3 h h2)
theorem awp_join5 {a b c d e z:CC} (h:AWp P opn n0 a (thenA (AWp P opn n0 b (thenA (AWp P opn n0 c (thenA (AWp P opn n0 d (thenA (AWp P opn n0 e (joinA n0 S)) (joinA n0 S))) (joinA n0 S))) (joinA n0 S))) (joinA n0 S)) st) (h2:AWp P opn n0 z Q S):AWp P opn n0 (.seq a (.seq b (.seq c (.seq d (.seq e z))))) Q st :=
 awp_jstep h (fun _ h=>awp_join4 h h2)
end Go.Am
namespace Go.Off
theorem dual_sum (P:PF) (y x:List Rat):sumR P.n (fun k=>colY P y k * lF x k) = sumR P.m (fun i=>lF y i * rowX P x i):=by
 have e1:∀ k,k < P.n -> colY P y k * lF x k = sumR P.m (fun i=>lF y i * P.a i k * lF x k):=fun k _=>by
  unfold colY;rw [sumR_mul]
 rw [sumR_congr e1,sumR_comm]
 refine sumR_congr (fun i _=>?_)
 unfold rowX
 rw [<- sumR_mull]
 exact sumR_congr (fun k _=>by rw [Rat.mul_assoc])
theorem sumR_le' {n:Nat} {f g:Nat -> Rat} (h:∀ i,i < n -> f i <= g i):sumR n f <= sumR n g:=by
 have:=sumR_nn' (f:=fun i=>g i - f i) (fun i hi=>by have:=h i hi;grind)
 rw [sumR_sub] at this
 grind
theorem weak {P:PF} {y x:List Rat} (hy:∀ k,k < P.n -> colY P y k <= P.c k) (hx:Feas P x):ybP P y <= cxP P x:=by
 have h1:sumR P.n (fun k=>colY P y k * lF x k) <= cxP P x:=sumR_le' (fun k hk=>Rat.mul_le_mul_of_nonneg_right (hy k hk) (hx.2.1 k hk))
 rw [dual_sum] at h1
 have e:sumR P.m (fun i=>lF y i * rowX P x i) = ybP P y:=sumR_congr (fun i hi=>by rw [hx.2.2 i hi])
 rw [e] at h1
 exact h1
theorem prov_le {P:PF} {r:SR} (h:Prov P r) (hv:r.v = 1) {x:List Rat} (hx:Feas P x):cxP P r.X <= cxP P x:=by
 rcases h with ⟨_,_,_,h4,h5,_⟩ | ⟨h1,_⟩ | ⟨h1,_⟩
 ·rw [<- h5];exact weak h4 hx
 ·omega
 ·omega
theorem prov_no {P:PF} {r:SR} (h:Prov P r) (hv:r.v = 2) {x:List Rat} (hx:Feas P x):False:=by
 rcases h with ⟨h1,_⟩ | ⟨_,_,_,_,h4,h5⟩ | ⟨h1,_⟩
 ·omega
 ·have h6:sumR P.n (fun k=>colY P r.Y k * lF x k) <= 0:=sumR_np (fun k hk=>by
   have:=mul_np (hx.2.1 k hk) (h4 k hk)
   rw [Rat.mul_comm];exact this)
  rw [dual_sum] at h6
  have e:sumR P.m (fun i=>lF r.Y i * rowX P x i) = ybP P r.Y:=sumR_congr (fun i hi=>by rw [hx.2.2 i hi])
  rw [e] at h6
  exact absurd h5 (Rat.not_lt.2 h6)
 ·omega
theorem prov_feas {P:PF} {r:SR} (h:Prov P r) (hv:r.v ≠ 2):Feas P r.X:=by
 rcases h with ⟨_,h2,_⟩ | ⟨h1,_⟩ | ⟨_,_,h2,_⟩
 ·exact h2
 ·exact absurd h1 hv
 ·exact h2
theorem prov_v {P:PF} {r:SR} (h:Prov P r):r.v = 1 \/ r.v = 2 \/ r.v = 3:=by
 rcases h with ⟨h1,_⟩ | ⟨h1,_⟩ | ⟨h1,_⟩
 ·exact .inl h1
 ·exact .inr (.inl h1)
 ·exact .inr (.inr h1)
def alongL (n:Nat) (x ray:List Rat) (t:Rat):List Rat:=(List.range n).map fun k=>lF x k + lF ray k * t
theorem along_at {n k:Nat} (hk:k < n) (x ray:List Rat) (t:Rat):lF (alongL n x ray t) k = lF x k + lF ray k * t:=getD_mapR n _ k 0 hk
theorem along_feas {P:PF} {x ray:List Rat} {t:Rat} (hx:Feas P x) (h1:∀ k,k < P.n -> 0 <= lF ray k) (h2:∀ i,i < P.m -> rowX P ray i = 0) (ht:0 <= t):Feas P (alongL P.n x ray t):=by
 refine ⟨by unfold alongL;rw [List.length_map,List.length_range],fun k hk=>?_,fun i hi=>?_⟩
 ·rw [along_at hk]
  have:=Rat.mul_nonneg (h1 k hk) ht
  have:=hx.2.1 k hk
  grind
 ·rw [<- hx.2.2 i hi]
  have e:rowX P (alongL P.n x ray t) i = rowX P x i + rowX P ray i * t:=by
   unfold rowX
   rw [<- sumR_lin]
   exact sumR_congr (fun k hk=>by rw [along_at hk];grind)
  rw [e,h2 i hi,Rat.zero_mul,Rat.add_zero]
theorem along_cost {P:PF} (x ray:List Rat) (t:Rat):cxP P (alongL P.n x ray t) = cxP P x + cxP P ray * t:=by
 unfold cxP
 rw [<- sumR_lin]
 exact sumR_congr (fun k hk=>by rw [along_at hk];grind)
theorem prov_not13 {P:PF} {r s:SR} (h:Prov P r) (g:Prov P s) (hr:r.v = 1) (hs:s.v = 3):False:=by
 rcases g with ⟨g1,_⟩ | ⟨g1,_⟩ | ⟨_,_,g3,g4,g5,g6,g7⟩
 ·omega
 ·omega
 ·obtain ⟨q,hq⟩:∃ q,q = -(cxP P s.Ray):=⟨_,rfl⟩
  have q0:0 < q:=by grind
  have l0:=prov_le h hr g3
  have t0:0 <= (cxP P s.X - cxP P r.X + 1) * q⁻¹:=Rat.mul_nonneg (by grind) (Rat.le_of_lt (inv_pos q0))
  have h1:=prov_le h hr (along_feas g3 g5 g6 t0)
  rw [along_cost] at h1
  have e:q * q⁻¹ = 1:=Rat.mul_inv_cancel _ (fun e=>by rw [e] at q0;exact absurd q0 (by decide))
  have e2:cxP P s.Ray = -q:=by grind
  rw [e2] at h1
  have e3 : -q * ((cxP P s.X - cxP P r.X + 1) * q⁻¹) = -(cxP P s.X - cxP P r.X + 1):=by grind
  rw [e3] at h1
  grind
theorem prov_same {P:PF} {r s:SR} (h:Prov P r) (g:Prov P s):r.v = s.v /\ (r.v = 1 -> cxP P r.X = cxP P s.X):=by
 have key:∀ {r s:SR},Prov P r -> Prov P s -> r.v = 1 -> s.v = 1:=fun {r s} h g hr=>by
  rcases prov_v g with hs | hs | hs
  ·exact hs
  ·exact (prov_no g hs (prov_feas h (by omega))).elim
  ·exact (prov_not13 h g hr hs).elim
 have hv:r.v = s.v:=by
  rcases prov_v h with hr | hr | hr
  ·rw [hr,key h g hr]
  ·rcases prov_v g with hs | hs | hs
   ·exact absurd (key g h hs) (by omega)
   ·omega
   ·exact (prov_no h hr (prov_feas g (by omega))).elim
  ·rcases prov_v g with hs | hs | hs
   ·exact absurd (key g h hs) (by omega)
   ·exact (prov_no g hs (prov_feas h (by omega))).elim
   ·omega
 refine ⟨hv,fun hr=>?_⟩
 have h1:=prov_le h hr (prov_feas g (by omega))
 have h2:=prov_le g (by omega) (prov_feas h (by omega))
 exact Rat.le_antisymm h1 h2
theorem prov_twice {P Q:PF} {q:Rat} (h0:0 < q) (hm:Q.m = P.m) (hn:Q.n = P.n) (ha:∀ i k,i < P.m -> k < P.n -> Q.a i k = P.a i k * q) (hb:∀ i,i < P.m -> Q.b i = P.b i * q) (hc:∀ k,k < P.n -> Q.c k = P.c k * q) {s:SR} (h:Prov Q s) :
  Prov P s /\ ∀ x,cxP Q x = cxP P x * q:=by
 have c1:∀ y k,k < P.n -> colY Q y k = colY P y k * q:=fun y k hk=>by
  unfold colY;rw [hm,<- sumR_mul];exact sumR_congr (fun i hi=>by rw [ha i k hi hk];grind)
 have c2:∀ x i,i < P.m -> rowX Q x i = rowX P x i * q:=fun x i hi=>by
  unfold rowX;rw [hn,<- sumR_mul];exact sumR_congr (fun k hk=>by rw [ha i k hi hk];grind)
 have c3:∀ y,ybP Q y = ybP P y * q:=fun y=>by
  unfold ybP;rw [hm,<- sumR_mul];exact sumR_congr (fun i hi=>by rw [hb i hi];grind)
 have c4:∀ x,cxP Q x = cxP P x * q:=fun x=>by
  unfold cxP;rw [hn,<- sumR_mul];exact sumR_congr (fun k hk=>by rw [hc k hk];grind)
 have e:q * q⁻¹ = 1:=Rat.mul_inv_cancel _ (fun e=>by rw [e] at h0;exact absurd h0 (by decide))
 have can:∀ {a b:Rat},a * q = b * q -> a = b:=fun {a b} h=>by
  have h2:a * q * q⁻¹ = b * q * q⁻¹:=by rw [h]
  grind
 have i0:=inv_pos h0
 have canl:∀ {a b:Rat},a * q <= b * q -> a <= b:=fun {a b} h=>by
  have h2:=Rat.mul_le_mul_of_nonneg_right h (Rat.le_of_lt i0)
  have e1:a * q * q⁻¹ = a:=by grind
  have e2:b * q * q⁻¹ = b:=by grind
  rw [e1,e2] at h2
  exact h2
 have canp:∀ {a:Rat},0 < a * q -> 0 < a:=fun {a} h=>Rat.not_le.1 (fun hn=>by
  have:=mul_np (Rat.le_of_lt h0) hn
  rw [Rat.mul_comm] at this
  exact absurd h (Rat.not_lt.2 this))
 have cann:∀ {a:Rat},a * q < 0 -> a < 0:=fun {a} h=>Rat.not_le.1 (fun hn=>by
  have:=Rat.mul_nonneg hn (Rat.le_of_lt h0)
  exact absurd h (Rat.not_lt.2 this))
 have hf:∀ {x},Feas Q x -> Feas P x:=fun {x} hx=>⟨by rw [<- hn];exact hx.1,fun k hk=>hx.2.1 k (by omega),fun i hi=>can (by rw [<- c2 x i hi,<- hb i hi];exact hx.2.2 i (by omega))⟩
 refine ⟨?_,c4⟩
 rcases h with ⟨h1,h2,h3,h4,h5,h6⟩ | ⟨h1,h2,h3,h4,h5,h6⟩ | ⟨h1,h2,h3,h4,h5,h6,h7⟩
 ·exact .inl ⟨h1,hf h2,by omega,fun k hk=>canl (by rw [<- c1 _ k hk,<- hc k hk];exact h4 k (by omega)),can (by rw [<- c3,<- c4];exact h5),h6⟩
 ·exact .inr (.inl ⟨h1,h2,h3,by omega,fun k hk=>canl (by rw [<- c1 _ k hk,Rat.zero_mul];exact h5 k (by omega)),canp (by rw [<- c3];exact h6)⟩)
 ·exact .inr (.inr ⟨h1,h2,hf h3,by omega,fun k hk=>h5 k (by omega),fun i hi=>can (by rw [<- c2 _ i hi,Rat.zero_mul];exact h6 i (by omega)),cann (by rw [<- c4];exact h7)⟩)
end Go.Off
namespace Go.Off
theorem sumR_at1 {n k:Nat} {f:Nat -> Rat} (hk:k < n) (h:∀ i,i < n -> i ≠ k -> f i = 0):sumR n f = f k:=by
 have:=sumR_single n k f
 rw [if_pos hk] at this
 rw [<- this]
 exact sumR_congr (fun i hi=>by
  by_cases e:k = i
  ·rw [if_pos e]
  ·rw [if_neg e];exact h i hi (fun e'=>e e'.symm))
theorem sumR_at2 {n j k:Nat} {f:Nat -> Rat} (hj:j < n) (hk:k < n) (hjk:j ≠ k) (h:∀ i,i < n -> i ≠ j -> i ≠ k -> f i = 0):sumR n f = f j + f k:=by
 have h1:=sumR_single n j f
 have h2:=sumR_single n k f
 rw [if_pos hj] at h1
 rw [if_pos hk] at h2
 rw [<- h1,<- h2,<- sumR_add]
 exact sumR_congr (fun i hi=>by
  by_cases e:j = i
  ·have:¬ k = i:=by omega
   rw [if_pos e,if_neg this];grind
  ·by_cases e':k = i
   ·rw [if_neg e,if_pos e'];grind
   ·rw [if_neg e,if_neg e',h i hi (fun x=>e x.symm) (fun x=>e' x.symm)];grind)
theorem sumR_at3 {n j k l:Nat} {f:Nat -> Rat} (hj:j < n) (hk:k < n) (hl:l < n) (hjk:j ≠ k) (hjl:j ≠ l) (hkl:k ≠ l) (h:∀ i,i < n -> i ≠ j -> i ≠ k -> i ≠ l -> f i = 0):sumR n f = f j + f k + f l:=by
 have h3:=sumR_single n l f
 rw [if_pos hl] at h3
 have h2:sumR n (fun i=>if l = i then 0 else f i) = f j + f k:=by
  rw [sumR_at2 hj hk hjk (fun i hi e1 e2=>by
   by_cases e:l = i
   ·rw [if_pos e]
   ·rw [if_neg e];exact h i hi e1 e2 (fun x=>e x.symm)),if_neg (fun e=>hjl e.symm),if_neg (fun e=>hkl e.symm)]
 rw [<- h2,<- h3,<- sumR_add]
 exact sumR_congr (fun i hi=>by
  by_cases e:l = i
  ·rw [if_pos e,if_pos e];grind
  ·rw [if_neg e,if_neg e];grind)
def pivTo (a b:Nat -> Int):Nat -> Int × Int
 | 0=>(0,0)
 | i + 1=>if a i ≠ 0 /\ (pivTo a b i).2 = 0 then (b i,a i) else pivTo a b i
def sgnd (q:Int × Int):Int × Int:=if q.2 < 0 then (0 - q.1,0 - q.2) else q
def eqTo (a b:Nat -> Int) (q:Int × Int) (i:Nat):Bool:=(List.range i).all fun j=>decide (a j * q.1 = b j * q.2)
def onesF (a b:Nat -> Int) (m:Nat):Int × Int × Bool :=
 if (pivTo a b m).2 = 0 then (0,0,false) else
 if eqTo a b (sgnd (pivTo a b m)) m then ((sgnd (pivTo a b m)).1,(sgnd (pivTo a b m)).2,decide (0 <= (sgnd (pivTo a b m)).1)) else (0,0,false)
theorem piv_spec (a b:Nat -> Int):∀ i,(pivTo a b i = (0,0) /\ ∀ j,j < i -> a j = 0) \/ ∃ j,j < i /\ a j ≠ 0 /\ pivTo a b i = (b j,a j)
 | 0=>.inl ⟨rfl,fun j h=>absurd h (Nat.not_lt_zero _)⟩
 | i + 1=>by
  rcases piv_spec a b i with ⟨h1,h2⟩ | ⟨j,hj,h1,h2⟩
  ·by_cases c:a i = 0
   ·refine .inl ⟨?_,fun j hj=>?_⟩
    ·show (if a i ≠ 0 /\ (pivTo a b i).2 = 0 then (b i,a i) else pivTo a b i) = _
     rw [if_neg (fun h=>h.1 c),h1]
    ·rcases Nat.lt_succ_iff_lt_or_eq.1 hj with h | h
     ·exact h2 j h
     ·rw [h];exact c
   ·refine .inr ⟨i,Nat.lt_succ_self _,c,?_⟩
    show (if a i ≠ 0 /\ (pivTo a b i).2 = 0 then (b i,a i) else pivTo a b i) = _
    rw [if_pos ⟨c,by rw [h1]⟩]
  ·refine .inr ⟨j,Nat.lt_succ_of_lt hj,h1,?_⟩
   show (if a i ≠ 0 /\ (pivTo a b i).2 = 0 then (b i,a i) else pivTo a b i) = _
   rw [if_neg (fun h=>h1 (by have:=h.2;rw [h2] at this;exact this)),h2]
theorem eqTo_iff (a b:Nat -> Int) (q:Int × Int) (m:Nat):eqTo a b q m = true ↔ ∀ j,j < m -> a j * q.1 = b j * q.2:=by
 unfold eqTo
 rw [List.all_eq_true]
 exact ⟨fun h j hj=>by have:=h j (List.mem_range.2 hj);rwa [decide_eq_true_eq] at this,fun h j hj=>by rw [decide_eq_true_eq];exact h j (List.mem_range.1 hj)⟩
theorem eqTo_succ (a b:Nat -> Int) (q:Int × Int) (i:Nat):eqTo a b q (i + 1) = (eqTo a b q i && decide (a i * q.1 = b i * q.2)):=by
 unfold eqTo;rw [List.range_succ,List.all_append];simp
theorem eqTo_false {a b:Nat -> Int} {q:Int × Int} {i m:Nat} (hi:i < m) (h:a i * q.1 ≠ b i * q.2):eqTo a b q m = false:=by
 rw [Bool.eq_false_iff]
 intro e
 exact h ((eqTo_iff _ _ _ _).1 e i hi)
theorem sgnd_pos {q:Int × Int} (h:q.2 ≠ 0):0 < (sgnd q).2:=by
 unfold sgnd
 split
 ·show 0 < 0 - q.2;omega
 ·omega
theorem sgnd_bnd {q:Int × Int} (h1 : -20 <= q.1 /\ q.1 <= 20) (h2 : -20 <= q.2 /\ q.2 <= 20):(-20 <= (sgnd q).1 /\ (sgnd q).1 <= 20) /\ (-20 <= (sgnd q).2 /\ (sgnd q).2 <= 20):=by
 unfold sgnd
 split
 ·show (-20 <= 0 - q.1 /\ 0 - q.1 <= 20) /\ (-20 <= 0 - q.2 /\ 0 - q.2 <= 20);omega
 ·exact ⟨h1,h2⟩
theorem ones_yes {a b:Nat -> Int} {m:Nat} (h:(onesF a b m).2.2 = true):0 < m /\ 0 < (onesF a b m).2.1 /\ 0 <= (onesF a b m).1 /\ ∀ i,i < m -> a i * (onesF a b m).1 = b i * (onesF a b m).2.1:=by
 unfold onesF at h ⊢
 by_cases c:(pivTo a b m).2 = 0
 ·rw [if_pos c] at h;cases h
 ·rw [if_neg c] at h ⊢
  by_cases e:eqTo a b (sgnd (pivTo a b m)) m = true
  ·rw [if_pos e] at h ⊢
   refine ⟨?_,sgnd_pos c,of_decide_eq_true h,(eqTo_iff _ _ _ _).1 e⟩
   cases m with
   | zero=>exact absurd rfl c
   | succ m=>exact Nat.succ_pos _
  ·rw [if_neg e] at h;cases h
theorem ones_bnd {a b:Nat -> Int} {m:Nat} (hb:∀ i,i < m -> (-20 <= a i /\ a i <= 20) /\ (-20 <= b i /\ b i <= 20)):(-20 <= (onesF a b m).1 /\ (onesF a b m).1 <= 20) /\ (-20 <= (onesF a b m).2.1 /\ (onesF a b m).2.1 <= 20):=by
 have hp:(-20 <= (pivTo a b m).1 /\ (pivTo a b m).1 <= 20) /\ (-20 <= (pivTo a b m).2 /\ (pivTo a b m).2 <= 20):=by
  rcases piv_spec a b m with ⟨h,_⟩ | ⟨j,hj,_,h⟩
  ·rw [h];decide
  ·rw [h];exact ⟨(hb j hj).2,(hb j hj).1⟩
 unfold onesF
 split
 ·decide
 ·split
  ·exact sgnd_bnd hp.1 hp.2
  ·decide
theorem ones_of {a b:Nat -> Int} {m:Nat} {t:Rat} (h0:0 <= t) (ht:∀ i,i < m -> (a i:Rat) * t = (b i:Rat)) (hn:∃ i,i < m /\ a i ≠ 0):(onesF a b m).2.2 = true /\ ((onesF a b m).1:Rat) = t * ((onesF a b m).2.1:Rat):=by
 rcases piv_spec a b m with ⟨_,h⟩ | ⟨j,hj,h1,h2⟩
 ·obtain ⟨i,hi,hi2⟩:=hn
  exact absurd (h i hi) hi2
 ·have c:(pivTo a b m).2 ≠ 0:=by rw [h2];exact h1
  have hq:((sgnd (pivTo a b m)).1:Rat) = t * ((sgnd (pivTo a b m)).2:Rat):=by
   have:=ht j hj
   rw [h2]
   unfold sgnd
   split
   ·show ((0 - b j:Int):Rat) = t * ((0 - a j:Int):Rat)
    rw [Rat.intCast_sub,Rat.intCast_sub,<- this];grind
   ·show (b j:Rat) = t * (a j:Rat)
    rw [<- this];grind
  have hpos:(0:Rat) < ((sgnd (pivTo a b m)).2:Rat):=by exact_mod_cast sgnd_pos c
  have e:eqTo a b (sgnd (pivTo a b m)) m = true:=(eqTo_iff _ _ _ _).2 (fun i hi=>by
   have h3:((a i * (sgnd (pivTo a b m)).1:Int):Rat) = ((b i * (sgnd (pivTo a b m)).2:Int):Rat):=by
    rw [Rat.intCast_mul,Rat.intCast_mul,hq,<- ht i hi];grind
   exact_mod_cast h3)
  have hnn:0 <= (sgnd (pivTo a b m)).1:=by
   have h4:(0:Rat) <= ((sgnd (pivTo a b m)).1:Rat):=by rw [hq];exact Rat.mul_nonneg h0 (Rat.le_of_lt hpos)
   exact_mod_cast h4
  unfold onesF
  rw [if_neg c,if_pos e]
  exact ⟨decide_eq_true hnn,hq⟩
structure BS where
 n:Int
 d:Int
 f:Bool
def BS.val (s:BS):Rat:=(s.n:Rat) / (s.d:Rat)
def stepB (s:BS):Option (Int × Int) -> BS
 | none=>s
 | some q=>if !s.f || decide (q.1 * s.d < s.n * q.2) then ⟨q.1,q.2,true⟩ else s
theorem frac_lt {a b c d:Int} (hb:0 < b) (hd:0 < d):a * d < c * b ↔ (a:Rat) / (b:Rat) < (c:Rat) / (d:Rat):=by
 have h1:(0:Rat) < (b:Rat):=by exact_mod_cast hb
 have h2:(0:Rat) < (d:Rat):=by exact_mod_cast hd
 have h0:(a * d < c * b) ↔ ((a:Rat) * (d:Rat) < (c:Rat) * (b:Rat)):=by
  rw [<- Rat.intCast_mul,<- Rat.intCast_mul];exact Rat.intCast_lt_intCast.symm
 have e:(c:Rat) / (d:Rat) * (b:Rat) = (c:Rat) * (b:Rat) / (d:Rat):=by rw [Rat.div_def,Rat.div_def,Rat.mul_assoc,Rat.mul_comm (d:Rat)⁻¹,<- Rat.mul_assoc]
 rw [h0,Rat.div_lt_iff h1,e,Rat.lt_div_iff h2]
theorem fold_spec:∀ (l:List (Option (Int × Int))) (s:BS),0 < s.d -> (∀ q,some q ∈ l -> 0 < q.2) ->
  0 < (l.foldl stepB s).d /\ ((l.foldl stepB s).f = true -> (s.f = true /\ l.foldl stepB s = s) \/ some ((l.foldl stepB s).n,(l.foldl stepB s).d) ∈ l) /\
  (s.f = true -> (l.foldl stepB s).f = true /\ (l.foldl stepB s).val <= s.val) /\ ∀ q:Int × Int,some q ∈ l -> (l.foldl stepB s).f = true /\ (l.foldl stepB s).val <= (q.1:Rat) / (q.2:Rat)
 | [],s,h,_=>⟨h,fun h=>.inl ⟨h,rfl⟩,fun h=>⟨h,Rat.le_refl⟩,fun q hq=>absurd hq List.not_mem_nil⟩
 | o :: l,s,h,hq=>by
  have hs:0 < (stepB s o).d /\ ((stepB s o).f = true -> (s.f = true /\ stepB s o = s) \/ some ((stepB s o).n,(stepB s o).d) = o) /\ (s.f = true -> (stepB s o).f = true /\ (stepB s o).val <= s.val) /\ ∀ q:Int × Int,some q = o -> (stepB s o).f = true /\ (stepB s o).val <= (q.1:Rat) / (q.2:Rat):=by
   cases o with
   | none=>exact ⟨h,fun h=>.inl ⟨h,rfl⟩,fun h=>⟨h,Rat.le_refl⟩,fun q hq=>by cases hq⟩
   | some q =>
    have hq2:=hq q (List.mem_cons_self ..)
    show 0 < (if !s.f || decide (q.1 * s.d < s.n * q.2) then (⟨q.1,q.2,true⟩:BS) else s).d /\ _
    have e:stepB s (some q) = if !s.f || decide (q.1 * s.d < s.n * q.2) then (⟨q.1,q.2,true⟩:BS) else s:=rfl
    rw [e]
    by_cases c:(!s.f || decide (q.1 * s.d < s.n * q.2)) = true
    ·rw [if_pos c]
     refine ⟨hq2,fun _=>.inr rfl,fun hf=>⟨rfl,?_⟩,fun q' hq'=>⟨rfl,?_⟩⟩
     ·rw [hf] at c
      have c2:q.1 * s.d < s.n * q.2:=by simpa using c
      exact Rat.le_of_lt ((frac_lt hq2 h).1 c2)
     ·cases hq';exact Rat.le_refl
    ·rw [if_neg c]
     have c1:s.f = true:=by cases hf:s.f with | true=>rfl | false=>exact absurd (by rw [hf];rfl) c
     have c2:¬ q.1 * s.d < s.n * q.2:=fun h=>c (by rw [decide_eq_true h,Bool.or_true])
     refine ⟨h,fun hf=>.inl ⟨hf,rfl⟩,fun hf=>⟨hf,Rat.le_refl⟩,fun q' hq'=>⟨c1,?_⟩⟩
     cases hq'
     exact Rat.not_lt.1 (fun h'=>c2 ((frac_lt hq2 h).2 h'))
  obtain ⟨s1,s2,s3,s4⟩:=hs
  obtain ⟨t1,t2,t3,t4⟩:=fold_spec l (stepB s o) s1 (fun q hq'=>hq q (List.mem_cons_of_mem _ hq'))
  refine ⟨t1,fun hf=>?_,fun hf=>?_,fun q hq'=>?_⟩
  ·rcases t2 hf with ⟨g1,g2⟩ | g
   ·show (s.f = true /\ l.foldl stepB (stepB s o) = s) \/ some ((l.foldl stepB (stepB s o)).n,(l.foldl stepB (stepB s o)).d) ∈ o :: l
    rw [g2]
    rcases s2 g1 with ⟨g3,g4⟩ | g3
    ·exact .inl ⟨g3,g4⟩
    ·exact .inr (by rw [g3];exact List.mem_cons_self ..)
   ·exact .inr (List.mem_cons_of_mem _ g)
  ·obtain ⟨g1,g2⟩:=s3 hf
   obtain ⟨g3,g4⟩:=t3 g1
   exact ⟨g3,Rat.le_trans g4 g2⟩
  ·rcases List.mem_cons.1 hq' with g | g
   ·obtain ⟨g1,g2⟩:=s4 q g
    obtain ⟨g3,g4⟩:=t3 g1
    exact ⟨g3,Rat.le_trans g4 g2⟩
   ·exact t4 q g
end Go.Off
namespace Go.Off
def cand1 (A:Nat -> Nat -> Int) (B C:Nat -> Int) (m k:Nat):Option (Int × Int) :=
 if (onesF (fun i=>A i k) B m).2.2 then some ((onesF (fun i=>A i k) B m).1 * C k,(onesF (fun i=>A i k) B m).2.1) else none
def triF (A:Nat -> Nat -> Int) (B:Nat -> Int) (j k:Nat):Int × Int × Int :=
 if A 0 j * A 1 k - A 0 k * A 1 j < 0 then (0 - (A 0 j * A 1 k - A 0 k * A 1 j),0 - (B 0 * A 1 k - A 0 k * B 1),0 - (A 0 j * B 1 - B 0 * A 1 j))
 else (A 0 j * A 1 k - A 0 k * A 1 j,B 0 * A 1 k - A 0 k * B 1,A 0 j * B 1 - B 0 * A 1 j)
def cand2 (A:Nat -> Nat -> Int) (B C:Nat -> Int) (j k:Nat):Option (Int × Int) :=
 if 0 < (triF A B j k).1 /\ 0 <= (triF A B j k).2.1 /\ 0 <= (triF A B j k).2.2 then some ((triF A B j k).2.1 * C j + (triF A B j k).2.2 * C k,(triF A B j k).1) else none
def candIn (A:Nat -> Nat -> Int) (B C:Nat -> Int) (m k j:Nat):List (Option (Int × Int)):=cand1 A B C m k :: (List.range j).map fun i=>cand2 A B C i k
def candsTo (A:Nat -> Nat -> Int) (B C:Nat -> Int) (m:Nat):Nat -> List (Option (Int × Int))
 | 0=>[]
 | k + 1=>candsTo A B C m k ++ candIn A B C m k (if m = 2 then k else 0)
def zerTo (B:Nat -> Int) (i:Nat):Bool:=(List.range i).all fun j=>decide (B j = 0)
def bestTo (A:Nat -> Nat -> Int) (B C:Nat -> Int) (m k:Nat):BS:=(candsTo A B C m k).foldl stepB ⟨0,1,zerTo B m⟩
def innTo (A:Nat -> Nat -> Int) (B C:Nat -> Int) (m k j:Nat):BS:=(candIn A B C m k j).foldl stepB (bestTo A B C m k)
section
variable {A:Nat -> Nat -> Int} {B C:Nat -> Int} {m:Nat}
theorem best_succ (k:Nat):bestTo A B C m (k + 1) = innTo A B C m k (if m = 2 then k else 0):=by
 unfold bestTo innTo
 show List.foldl _ _ (candsTo A B C m k ++ _) = _
 rw [List.foldl_append];rfl
theorem inn_zero (k:Nat):innTo A B C m k 0 = stepB (bestTo A B C m k) (cand1 A B C m k):=rfl
theorem inn_succ (k j:Nat):innTo A B C m k (j + 1) = stepB (innTo A B C m k j) (cand2 A B C j k):=by
 unfold innTo candIn
 rw [List.range_succ,List.map_append,<- List.cons_append,List.foldl_append];rfl
theorem zerTo_iff (B:Nat -> Int) (m:Nat):zerTo B m = true ↔ ∀ j,j < m -> B j = 0:=by
 unfold zerTo
 rw [List.all_eq_true]
 exact ⟨fun h j hj=>by have:=h j (List.mem_range.2 hj);rwa [decide_eq_true_eq] at this,fun h j hj=>by rw [decide_eq_true_eq];exact h j (List.mem_range.1 hj)⟩
theorem zerTo_succ (B:Nat -> Int) (i:Nat):zerTo B (i + 1) = (zerTo B i && decide (B i = 0)):=by
 unfold zerTo;rw [List.range_succ,List.all_append];simp
theorem mem_cands {q:Int × Int}:∀ {n:Nat},some q ∈ candsTo A B C m n ↔ ∃ k,k < n /\ (cand1 A B C m k = some q \/ (m = 2 /\ ∃ j,j < k /\ cand2 A B C j k = some q))
 | 0=>⟨fun h=>absurd h List.not_mem_nil,fun ⟨k,h,_⟩=>absurd h (Nat.not_lt_zero _)⟩
 | n + 1=>by
  show some q ∈ candsTo A B C m n ++ candIn A B C m n (if m = 2 then n else 0) ↔ _
  rw [List.mem_append,mem_cands]
  have hin:some q ∈ candIn A B C m n (if m = 2 then n else 0) ↔ (cand1 A B C m n = some q \/ (m = 2 /\ ∃ j,j < n /\ cand2 A B C j n = some q)):=by
   unfold candIn
   rw [List.mem_cons,List.mem_map]
   constructor
   ·rintro (h | ⟨j,hj,h⟩)
    ·exact .inl h.symm
    ·rw [List.mem_range] at hj
     by_cases e:m = 2
     ·rw [if_pos e] at hj;exact .inr ⟨e,j,hj,h⟩
     ·rw [if_neg e] at hj;exact absurd hj (Nat.not_lt_zero _)
   ·rintro (h | ⟨e,j,hj,h⟩)
    ·exact .inl h.symm
    ·exact .inr ⟨j,by rw [List.mem_range,if_pos e];exact hj,h⟩
  rw [hin]
  constructor
  ·rintro (⟨k,hk,h⟩ | h)
   ·exact ⟨k,Nat.lt_succ_of_lt hk,h⟩
   ·exact ⟨n,Nat.lt_succ_self _,h⟩
  ·rintro ⟨k,hk,h⟩
   rcases Nat.lt_succ_iff_lt_or_eq.1 hk with hk | hk
   ·exact .inl ⟨k,hk,h⟩
   ·subst hk;exact .inr h
theorem cand1_some {k:Nat} {q:Int × Int} (h:cand1 A B C m k = some q):(onesF (fun i=>A i k) B m).2.2 = true /\ q = ((onesF (fun i=>A i k) B m).1 * C k,(onesF (fun i=>A i k) B m).2.1):=by
 unfold cand1 at h
 split at h
 ·rename_i c;exact ⟨c,(Option.some.inj h).symm⟩
 ·cases h
theorem cand2_some {j k:Nat} {q:Int × Int} (h:cand2 A B C j k = some q):(0 < (triF A B j k).1 /\ 0 <= (triF A B j k).2.1 /\ 0 <= (triF A B j k).2.2) /\ q = ((triF A B j k).2.1 * C j + (triF A B j k).2.2 * C k,(triF A B j k).1):=by
 unfold cand2 at h
 split at h
 ·rename_i c;exact ⟨c,(Option.some.inj h).symm⟩
 ·cases h
theorem tri_rows (j k:Nat):A 0 j * (triF A B j k).2.1 + A 0 k * (triF A B j k).2.2 = B 0 * (triF A B j k).1 /\ A 1 j * (triF A B j k).2.1 + A 1 k * (triF A B j k).2.2 = B 1 * (triF A B j k).1:=by
 unfold triF
 split
 ·constructor <;> (dsimp only;grind)
 ·constructor <;> (dsimp only;grind)
theorem mul_bnd {a b:Int} {x y:Int} (hx : -x <= a /\ a <= x) (hy : -y <= b /\ b <= y) : -(x * y) <= a * b /\ a * b <= x * y:=by
 have h0:0 <= x:=by omega
 have h1:0 <= y:=by omega
 have h2:(a * b).natAbs <= (x * y).natAbs:=by
  rw [Int.natAbs_mul,Int.natAbs_mul]
  exact Nat.mul_le_mul (by omega) (by omega)
 have h3:0 <= x * y:=Int.mul_nonneg h0 h1
 omega
def SmallN (A:Nat -> Nat -> Int) (B C:Nat -> Int) (m n:Nat):Prop:=∀ i,i < m -> ∀ k,k < n -> (-20 <= A i k /\ A i k <= 20) /\ (-20 <= B i /\ B i <= 20) /\ (-20 <= C k /\ C k <= 20)
theorem tri_bnd {n:Nat} (hs:SmallN A B C m n) (hm:m = 2) {j k:Nat} (hj:j < n) (hk:k < n):(-800 <= (triF A B j k).1 /\ (triF A B j k).1 <= 800) /\ (-800 <= (triF A B j k).2.1 /\ (triF A B j k).2.1 <= 800) /\ (-800 <= (triF A B j k).2.2 /\ (triF A B j k).2.2 <= 800):=by
 obtain ⟨a1,b1,_⟩:=hs 0 (by omega) j hj
 obtain ⟨a2,_,_⟩:=hs 0 (by omega) k hk
 obtain ⟨a3,b2,_⟩:=hs 1 (by omega) j hj
 obtain ⟨a4,_,_⟩:=hs 1 (by omega) k hk
 have m1:=mul_bnd a1 a4
 have m2:=mul_bnd a2 a3
 have m3:=mul_bnd b1 a4
 have m4:=mul_bnd a2 b2
 have m5:=mul_bnd a1 b2
 have m6:=mul_bnd b1 a3
 unfold triF
 split <;> (dsimp only;omega)
def BndQ (q:Int × Int):Prop:=(-32000 <= q.1 /\ q.1 <= 32000) /\ 0 < q.2 /\ q.2 <= 800
theorem cand1_bnd {n:Nat} (hs:SmallN A B C m n) {k:Nat} (hk:k < n) {q:Int × Int} (h:cand1 A B C m k = some q):BndQ q:=by
 obtain ⟨h1,rfl⟩:=cand1_some h
 obtain ⟨g1,g2,g3,g4⟩:=ones_yes h1
 obtain ⟨g5,g6⟩:=ones_bnd (a:=fun i=>A i k) (b:=B) (fun i hi=>⟨(hs i hi k hk).1,(hs i hi k hk).2.1⟩)
 have:=mul_bnd g5 (hs 0 g1 k hk).2.2
 exact ⟨by omega,g2,by omega⟩
theorem cand2_bnd {n:Nat} (hs:SmallN A B C m n) (hm:m = 2) {j k:Nat} (hj:j < n) (hk:k < n) {q:Int × Int} (h:cand2 A B C j k = some q):BndQ q:=by
 obtain ⟨h1,rfl⟩:=cand2_some h
 obtain ⟨t1,t2,t3⟩:=tri_bnd hs hm hj hk
 have m1:=mul_bnd t2 (hs 0 (by omega) j hj).2.2
 have m2:=mul_bnd t3 (hs 0 (by omega) k hk).2.2
 exact ⟨by dsimp only;omega,h1.1,t1.2⟩
theorem step_bnd {s:BS} {o:Option (Int × Int)} (h:BndQ (s.n,s.d)) (ho:∀ q,o = some q -> BndQ q):BndQ ((stepB s o).n,(stepB s o).d):=by
 cases o with
 | none=>exact h
 | some q =>
  show BndQ ((if !s.f || decide (q.1 * s.d < s.n * q.2) then (⟨q.1,q.2,true⟩:BS) else s).n,_)
  have e:stepB s (some q) = if !s.f || decide (q.1 * s.d < s.n * q.2) then (⟨q.1,q.2,true⟩:BS) else s:=rfl
  rw [e]
  by_cases c:(!s.f || decide (q.1 * s.d < s.n * q.2)) = true
  ·rw [if_pos c];exact ho q rfl
  ·rw [if_neg c];exact h
theorem inn_bnd {n k:Nat} (hs:SmallN A B C m n) (hm:m = 2) (hk:k < n) (h0:BndQ ((innTo A B C m k 0).n,(innTo A B C m k 0).d)):∀ j,j <= k -> BndQ ((innTo A B C m k j).n,(innTo A B C m k j).d)
 | 0,_=>h0
 | j + 1,hj=>by
  rw [inn_succ]
  exact step_bnd (inn_bnd hs hm hk h0 j (by omega)) (fun q hq=>cand2_bnd hs hm (by omega) hk hq)
theorem best_bnd {n:Nat} (hs:SmallN A B C m n):∀ k,k <= n -> BndQ ((bestTo A B C m k).n,(bestTo A B C m k).d)
 | 0,_=>show BndQ ((0:Int),(1:Int)) from ⟨⟨by decide,by decide⟩,by decide,by decide⟩
 | k + 1,hk=>by
  rw [best_succ]
  have h0:BndQ ((innTo A B C m k 0).n,(innTo A B C m k 0).d):=by
   rw [inn_zero];exact step_bnd (best_bnd hs k (by omega)) (fun q hq=>cand1_bnd hs (by omega) hq)
  by_cases e:m = 2
  ·rw [if_pos e];exact inn_bnd hs e (by omega) h0 k (Nat.le_refl _)
  ·rw [if_neg e];exact h0
structure IntP (P:PF) (A:Nat -> Nat -> Int) (B C:Nat -> Int):Prop where
 a:∀ i k,i < P.m -> k < P.n -> P.a i k = (A i k:Rat)
 b:∀ i,i < P.m -> P.b i = (B i:Rat)
 c:∀ k,k < P.n -> P.c k = (C k:Rat)
def ptF (n:Nat) (f:Nat -> Rat):List Rat:=(List.range n).map f
theorem ptF_len (n:Nat) (f:Nat -> Rat):(ptF n f).length = n:=by unfold ptF;rw [List.length_map,List.length_range]
theorem ptF_at {n:Nat} (f:Nat -> Rat) {k:Nat} (h:k < n):lF (ptF n f) k = f k:=getD_mapR n f k 0 h
theorem feas0 {P:PF} (h:IntP P A B C) (hz:∀ i,i < P.m -> B i = 0):∃ x,Feas P x /\ cxP P x = 0:=by
 refine ⟨ptF P.n (fun _=>0),⟨ptF_len _ _,fun k hk=>by rw [ptF_at _ hk];exact Rat.le_refl,fun i hi=>?_⟩,?_⟩
 ·rw [h.b i hi,hz i hi]
  exact sumR_zero' (fun k hk=>by rw [ptF_at _ hk,Rat.mul_zero])
 ·exact sumR_zero' (fun k hk=>by rw [ptF_at _ hk,Rat.mul_zero])
theorem feas1 {P:PF} (h:IntP P A B C) {k:Nat} (hk:k < P.n) {q:Int × Int} (hc:cand1 A B C P.m k = some q):∃ x,Feas P x /\ cxP P x = (q.1:Rat) / (q.2:Rat):=by
 obtain ⟨h1,rfl⟩:=cand1_some hc
 obtain ⟨g1,g2,g3,g4⟩:=ones_yes h1
 generalize (onesF (fun i=>A i k) B P.m).1 = n at *
 generalize (onesF (fun i=>A i k) B P.m).2.1 = d at *
 have hd:(0:Rat) < (d:Rat):=by exact_mod_cast g2
 have hn:(0:Rat) <= (n:Rat):=by exact_mod_cast g3
 have hd0:(d:Rat) ≠ 0:=by grind
 have ht:0 <= (n:Rat) / (d:Rat):=by rw [Rat.div_def];exact Rat.mul_nonneg hn (Rat.le_of_lt (Rat.inv_pos.2 hd))
 refine ⟨ptF P.n (fun i=>if i = k then (n:Rat) / (d:Rat) else 0),⟨ptF_len _ _,fun i hi=>?_,fun i hi=>?_⟩,?_⟩
 ·rw [ptF_at _ hi]
  split
  ·exact ht
  ·exact Rat.le_refl
 ·unfold rowX
  rw [sumR_at1 hk (fun j hj e=>by rw [ptF_at _ hj,if_neg e,Rat.mul_zero]),ptF_at _ hk,if_pos rfl,h.a i k hi hk,h.b i hi]
  have:((A i k * n:Int):Rat) = ((B i * d:Int):Rat):=by rw [g4 i hi]
  rw [Rat.intCast_mul,Rat.intCast_mul] at this
  grind
 ·unfold cxP
  rw [sumR_at1 hk (fun j hj e=>by rw [ptF_at _ hj,if_neg e,Rat.mul_zero]),ptF_at _ hk,if_pos rfl,h.c k hk]
  dsimp only
  rw [Rat.intCast_mul]
  grind
theorem feas2 {P:PF} (h:IntP P A B C) (hm:P.m = 2) {j k:Nat} (hjk:j < k) (hk:k < P.n) {q:Int × Int} (hc:cand2 A B C j k = some q):∃ x,Feas P x /\ cxP P x = (q.1:Rat) / (q.2:Rat):=by
 obtain ⟨⟨g1,g2,g3⟩,rfl⟩:=cand2_some hc
 obtain ⟨r0,r1⟩:=tri_rows (A:=A) (B:=B) j k
 generalize (triF A B j k).1 = d at *
 generalize (triF A B j k).2.1 = x at *
 generalize (triF A B j k).2.2 = y at *
 have hj:j < P.n:=by omega
 have hne:j ≠ k:=by omega
 have hd:(0:Rat) < (d:Rat):=by exact_mod_cast g1
 have hx:(0:Rat) <= (x:Rat):=by exact_mod_cast g2
 have hy:(0:Rat) <= (y:Rat):=by exact_mod_cast g3
 have hd0:(d:Rat) ≠ 0:=by grind
 have hi0:=Rat.le_of_lt (Rat.inv_pos.2 hd)
 have e0:∀ i,i < P.n -> i ≠ j -> i ≠ k -> (if i = j then (x:Rat) / (d:Rat) else if i = k then (y:Rat) / (d:Rat) else 0) = 0:=fun i _ e1 e2=>by rw [if_neg e1,if_neg e2]
 refine ⟨ptF P.n (fun i=>if i = j then (x:Rat) / (d:Rat) else if i = k then (y:Rat) / (d:Rat) else 0),⟨ptF_len _ _,fun i hi=>?_,fun i hi=>?_⟩,?_⟩
 ·rw [ptF_at _ hi]
  split
  ·rw [Rat.div_def];exact Rat.mul_nonneg hx hi0
  ·split
   ·rw [Rat.div_def];exact Rat.mul_nonneg hy hi0
   ·exact Rat.le_refl
 ·unfold rowX
  rw [sumR_at2 hj hk hne (fun l hl e1 e2=>by rw [ptF_at _ hl,e0 l hl e1 e2,Rat.mul_zero]),ptF_at _ hj,ptF_at _ hk,if_pos rfl,if_neg (fun e=>hne e.symm),if_pos rfl,h.a i j hi hj,h.a i k hi hk,h.b i hi]
  have key:(A i j:Rat) * (x:Rat) + (A i k:Rat) * (y:Rat) = (B i:Rat) * (d:Rat):=by
   have hi2:i = 0 \/ i = 1:=by omega
   rcases hi2 with rfl | rfl
   ·rw [<- Rat.intCast_mul,<- Rat.intCast_mul,<- Rat.intCast_mul,<- Rat.intCast_add,r0]
   ·rw [<- Rat.intCast_mul,<- Rat.intCast_mul,<- Rat.intCast_mul,<- Rat.intCast_add,r1]
  grind
 ·unfold cxP
  rw [sumR_at2 hj hk hne (fun l hl e1 e2=>by rw [ptF_at _ hl,e0 l hl e1 e2,Rat.mul_zero]),ptF_at _ hj,ptF_at _ hk,if_pos rfl,if_neg (fun e=>hne e.symm),if_pos rfl,h.c j hj,h.c k hk]
  dsimp only
  rw [Rat.intCast_add,Rat.intCast_mul,Rat.intCast_mul]
  grind
end
end Go.Off
namespace Go.Off
variable {A:Nat -> Nat -> Int} {B C:Nat -> Int}
theorem cand_pos {m n:Nat} {q:Int × Int} (h:some q ∈ candsTo A B C m n):0 < q.2:=by
 obtain ⟨k,hk,h | ⟨e,j,hj,h⟩⟩:=mem_cands.1 h
 ·obtain ⟨h1,rfl⟩:=cand1_some h
  exact (ones_yes h1).2.1
 ·obtain ⟨h1,rfl⟩:=cand2_some h
  exact h1.1
theorem least_yes {P:PF} (h:IntP P A B C) (hf:(bestTo A B C P.m P.n).f = true):∃ x,Feas P x /\ cxP P x = (bestTo A B C P.m P.n).val:=by
 obtain ⟨_,s2,_,_⟩:=fold_spec (candsTo A B C P.m P.n) ⟨0,1,zerTo B P.m⟩ (show (0:Int) < 1 by decide) (fun q hq=>cand_pos hq)
 rcases s2 hf with ⟨g1,g2⟩ | g
 ·obtain ⟨x,hx,hc⟩:=feas0 h ((zerTo_iff B P.m).1 g1)
  refine ⟨x,hx,?_⟩
  unfold bestTo
  rw [g2,hc]
  show (0:Rat) = ((0:Int):Rat) / ((1:Int):Rat)
  decide +kernel
 ·obtain ⟨k,hk,h1 | ⟨e,j,hj,h1⟩⟩:=mem_cands.1 g
  ·exact feas1 h hk h1
  ·exact feas2 h e hj hk h1
theorem col_zero {P:PF} {x:List Rat} (hc:Crn P x) {k:Nat} (hk:k < P.n) (hx:lF x k ≠ 0) (h0:∀ i,i < P.m -> P.a i k = 0):False:=by
 have:=hc (fun l=>if l = k then 1 else 0) (fun l hl hz=>by
  rw [if_neg]
  rintro rfl
  exact hx hz) (fun i hi=>by
   rw [sumR_at1 hk (fun l hl e=>by rw [if_neg e,Rat.mul_zero]),h0 i hi,Rat.zero_mul]) k hk
 rw [if_pos rfl] at this
 exact absurd this (by decide)
theorem col_two {P:PF} {x:List Rat} (hc:Crn P x) {j k:Nat} (hj:j < P.n) (hk:k < P.n) (hjk:j ≠ k) (xj:lF x j ≠ 0) (xk:lF x k ≠ 0) (u v:Rat) (h0:∀ i,i < P.m -> P.a i j * u + P.a i k * v = 0):u = 0 /\ v = 0:=by
 have key:=hc (fun l=>if l = j then u else if l = k then v else 0) (fun l hl hz=>by
  rw [if_neg (by rintro rfl;exact xj hz),if_neg (by rintro rfl;exact xk hz)]) (fun i hi=>by
   rw [sumR_at2 hj hk hjk (fun l hl e1 e2=>by rw [if_neg e1,if_neg e2,Rat.mul_zero]),if_pos rfl,if_neg (fun e=>hjk e.symm),if_pos rfl]
   exact h0 i hi)
 have k1:=key j hj
 have k2:=key k hk
 rw [if_pos rfl] at k1
 rw [if_neg (fun e=>hjk e.symm),if_pos rfl] at k2
 exact ⟨k1,k2⟩
theorem col_three {P:PF} {x:List Rat} (hc:Crn P x) {j k l:Nat} (hj:j < P.n) (hk:k < P.n) (hl:l < P.n) (hjk:j ≠ k) (hjl:j ≠ l) (hkl:k ≠ l) (xj:lF x j ≠ 0) (xk:lF x k ≠ 0) (xl:lF x l ≠ 0) (u v w:Rat) (h0:∀ i,i < P.m -> P.a i j * u + P.a i k * v + P.a i l * w = 0):w = 0:=by
 have key:=hc (fun n=>if n = j then u else if n = k then v else if n = l then w else 0) (fun n hn hz=>by
  rw [if_neg (by rintro rfl;exact xj hz),if_neg (by rintro rfl;exact xk hz),if_neg (by rintro rfl;exact xl hz)]) (fun i hi=>by
   rw [sumR_at3 hj hk hl hjk hjl hkl (fun n hn e1 e2 e3=>by rw [if_neg e1,if_neg e2,if_neg e3,Rat.mul_zero]),if_pos rfl,if_neg (fun e=>hjk e.symm),if_pos rfl,if_neg (fun e=>hjl e.symm),if_neg (fun e=>hkl e.symm),if_pos rfl]
   exact h0 i hi)
 have k1:=key l hl
 rw [if_neg (fun e=>hjl e.symm),if_neg (fun e=>hkl e.symm),if_pos rfl] at k1
 exact k1
theorem col_det {P:PF} (h:IntP P A B C) (hm:P.m <= 2) {x:List Rat} (hc:Crn P x) {j k:Nat} (hj:j < P.n) (hk:k < P.n) (hjk:j ≠ k) (xj:lF x j ≠ 0) (xk:lF x k ≠ 0):P.m = 2 /\ A 0 j * A 1 k - A 0 k * A 1 j ≠ 0:=by
 have h01:∀ i,i < P.m -> i = 0 \/ (i = 1 /\ P.m = 2):=fun i hi=>by omega
 by_cases e:P.m = 2
 ·refine ⟨e,fun hd=>?_⟩
  have hdR:P.a 0 j * P.a 1 k - P.a 0 k * P.a 1 j = 0:=by
   rw [h.a 0 j (by omega) hj,h.a 1 k (by omega) hk,h.a 0 k (by omega) hk,h.a 1 j (by omega) hj,<- Rat.intCast_mul,<- Rat.intCast_mul,<- Rat.intCast_sub,hd];rfl
  obtain ⟨p1,p2⟩:=col_two hc hj hk hjk xj xk (P.a 0 k) (- P.a 0 j) (fun i hi=>by
   rcases h01 i hi with rfl | ⟨rfl,_⟩ <;> grind)
  obtain ⟨q1,q2⟩:=col_two hc hj hk hjk xj xk (P.a 1 k) (- P.a 1 j) (fun i hi=>by
   rcases h01 i hi with rfl | ⟨rfl,_⟩ <;> grind)
  refine col_zero hc hj xj (fun i hi=>?_)
  rcases h01 i hi with rfl | ⟨rfl,_⟩ <;> grind
 ·exfalso
  obtain ⟨p1,p2⟩:=col_two hc hj hk hjk xj xk (P.a 0 k) (- P.a 0 j) (fun i hi=>by
   rcases h01 i hi with rfl | ⟨_,e2⟩
   ·grind
   ·exact absurd e2 e)
  refine col_zero hc hj xj (fun i hi=>?_)
  rcases h01 i hi with rfl | ⟨_,e2⟩
  ·grind
  ·exact absurd e2 e
theorem cand2_of {P:PF} (h:IntP P A B C) (hm:P.m = 2) {x:List Rat} (hx:Feas P x) {j k:Nat} (hjk:j < k) (hk:k < P.n) (hd:A 0 j * A 1 k - A 0 k * A 1 j ≠ 0) (h0:∀ l,l < P.n -> l ≠ j -> l ≠ k -> lF x l = 0):∃ q:Int × Int,cand2 A B C j k = some q /\ (q.1:Rat) / (q.2:Rat) = cxP P x:=by
 have hj:j < P.n:=by omega
 have hne:j ≠ k:=by omega
 obtain ⟨_,x0,xr⟩:=hx
 have row:∀ i,i < P.m -> (A i j:Rat) * lF x j + (A i k:Rat) * lF x k = (B i:Rat):=fun i hi=>by
  have:=xr i hi
  unfold rowX at this
  rw [sumR_at2 hj hk hne (fun l hl e1 e2=>by rw [h0 l hl e1 e2,Rat.mul_zero]),h.a i j hi hj,h.a i k hi hk,h.b i hi] at this
  exact this
 have cost:cxP P x = (C j:Rat) * lF x j + (C k:Rat) * lF x k:=by
  unfold cxP
  rw [sumR_at2 hj hk hne (fun l hl e1 e2=>by rw [h0 l hl e1 e2,Rat.mul_zero]),h.c j hj,h.c k hk]
 have r0:=row 0 (by omega)
 have r1:=row 1 (by omega)
 have xj:=x0 j hj
 have xk:=x0 k hk
 generalize lF x j = s at *
 generalize lF x k = t at *
 have key:0 < (triF A B j k).1 /\ ((triF A B j k).2.1:Rat) = s * ((triF A B j k).1:Rat) /\ ((triF A B j k).2.2:Rat) = t * ((triF A B j k).1:Rat):=by
  unfold triF
  split
  ·refine ⟨by dsimp only;omega,?_,?_⟩
   ·simp only [Rat.intCast_sub,Rat.intCast_mul];grind
   ·simp only [Rat.intCast_sub,Rat.intCast_mul];grind
  ·refine ⟨by dsimp only;omega,?_,?_⟩
   ·simp only [Rat.intCast_sub,Rat.intCast_mul];grind
   ·simp only [Rat.intCast_sub,Rat.intCast_mul];grind
 obtain ⟨k1,k2,k3⟩:=key
 have hdR:(0:Rat) < ((triF A B j k).1:Rat):=by exact_mod_cast k1
 have n1:0 <= (triF A B j k).2.1:=by
  have:(0:Rat) <= ((triF A B j k).2.1:Rat):=by rw [k2];exact Rat.mul_nonneg xj (Rat.le_of_lt hdR)
  exact_mod_cast this
 have n2:0 <= (triF A B j k).2.2:=by
  have:(0:Rat) <= ((triF A B j k).2.2:Rat):=by rw [k3];exact Rat.mul_nonneg xk (Rat.le_of_lt hdR)
  exact_mod_cast this
 refine ⟨_,if_pos ⟨k1,n1,n2⟩,?_⟩
 dsimp only
 rw [Rat.intCast_add,Rat.intCast_mul,Rat.intCast_mul,k2,k3,cost]
 have:((triF A B j k).1:Rat) ≠ 0:=by grind
 grind
theorem least_of {P:PF} (h:IntP P A B C) (hm:P.m <= 2) {x:List Rat} (hx:Feas P x) (hc:Crn P x):(bestTo A B C P.m P.n).f = true /\ (bestTo A B C P.m P.n).val <= cxP P x:=by
 obtain ⟨_,_,s3,s4⟩:=fold_spec (candsTo A B C P.m P.n) ⟨0,1,zerTo B P.m⟩ (show (0:Int) < 1 by decide) (fun q hq=>cand_pos hq)
 by_cases e0:∃ k,k < P.n /\ lF x k ≠ 0
 ·obtain ⟨k,hk,hxk⟩:=e0
  by_cases e1:∃ j,j < P.n /\ j ≠ k /\ lF x j ≠ 0
  ·obtain ⟨j,hj,hjk,hxj⟩:=e1
   have main:∀ {j k:Nat},j < k -> k < P.n -> lF x j ≠ 0 -> lF x k ≠ 0 -> (bestTo A B C P.m P.n).f = true /\ (bestTo A B C P.m P.n).val <= cxP P x:=fun {j k} hjk hk hxj hxk=>by
    have hj:j < P.n:=by omega
    have hne:j ≠ k:=by omega
    obtain ⟨hm2,hd⟩:=col_det h hm hc hj hk hne hxj hxk
    obtain ⟨q,hq,hv⟩:=cand2_of h hm2 hx hjk hk hd (fun l hl e1 e2=>by
     refine Classical.byContradiction fun hxl=>hd ?_
     have hw:=col_three hc hj hk hl hne (fun e=>e1 e.symm) (fun e=>e2 e.symm) hxj hxk hxl (P.a 0 k * P.a 1 l - P.a 0 l * P.a 1 k) (- (P.a 0 j * P.a 1 l - P.a 0 l * P.a 1 j)) (P.a 0 j * P.a 1 k - P.a 0 k * P.a 1 j) (fun i hi=>by
      have:i = 0 \/ i = 1:=by omega
      rcases this with rfl | rfl <;> grind)
     rw [h.a 0 j (by omega) hj,h.a 1 k (by omega) hk,h.a 0 k (by omega) hk,h.a 1 j (by omega) hj,<- Rat.intCast_mul,<- Rat.intCast_mul,<- Rat.intCast_sub] at hw
     exact_mod_cast hw)
    have:=s4 q (mem_cands.2 ⟨k,hk,.inr ⟨hm2,j,hjk,hq⟩⟩)
    rw [hv] at this
    exact this
   by_cases hlt:j < k
   ·exact main hlt hk hxj hxk
   ·exact main (by omega) hj hxk hxj
  ·have h0:∀ l,l < P.n -> l ≠ k -> lF x l = 0:=fun l hl e=>Classical.byContradiction fun hn=>e1 ⟨l,hl,e,hn⟩
   obtain ⟨_,x0,xr⟩:=hx
   have row:∀ i,i < P.m -> (A i k:Rat) * lF x k = (B i:Rat):=fun i hi=>by
    have:=xr i hi
    unfold rowX at this
    rw [sumR_at1 hk (fun l hl e1=>by rw [h0 l hl e1,Rat.mul_zero]),h.a i k hi hk,h.b i hi] at this
    exact this
   have cost:cxP P x = (C k:Rat) * lF x k:=by
    unfold cxP
    rw [sumR_at1 hk (fun l hl e1=>by rw [h0 l hl e1,Rat.mul_zero]),h.c k hk]
   obtain ⟨o1,o2⟩:=ones_of (a:=fun i=>A i k) (b:=B) (x0 k hk) row (Classical.byContradiction fun hn=>col_zero hc hk hxk (fun i hi=>by
    rw [h.a i k hi hk]
    have:A i k = 0:=Classical.byContradiction fun hz=>hn ⟨i,hi,hz⟩
    rw [this];rfl))
   have hd:(0:Rat) < ((onesF (fun i=>A i k) B P.m).2.1:Rat):=by exact_mod_cast (ones_yes o1).2.1
   have hq:cand1 A B C P.m k = some ((onesF (fun i=>A i k) B P.m).1 * C k,(onesF (fun i=>A i k) B P.m).2.1):=if_pos o1
   have:=s4 _ (mem_cands.2 ⟨k,hk,.inl hq⟩)
   dsimp only at this
   rw [Rat.intCast_mul,o2] at this
   rw [cost]
   have e:lF x k * ((onesF (fun i=>A i k) B P.m).2.1:Rat) * (C k:Rat) / ((onesF (fun i=>A i k) B P.m).2.1:Rat) = (C k:Rat) * lF x k:=by
    have:((onesF (fun i=>A i k) B P.m).2.1:Rat) ≠ 0:=by grind
    grind
   rw [e] at this
   exact this
 ·have h0:∀ k,k < P.n -> lF x k = 0:=fun k hk=>Classical.byContradiction fun hn=>e0 ⟨k,hk,hn⟩
  have hz:zerTo B P.m = true:=(zerTo_iff B P.m).2 (fun i hi=>by
   have:=hx.2.2 i hi
   unfold rowX at this
   rw [sumR_zero' (fun k hk=>by rw [h0 k hk,Rat.mul_zero]),h.b i hi] at this
   exact_mod_cast this.symm)
  have:=s3 hz
  have hc0:cxP P x = 0:=sumR_zero' (fun k hk=>by rw [h0 k hk,Rat.mul_zero])
  have hv:(⟨0,1,zerTo B P.m⟩:BS).val = 0:=by
   show ((0:Int):Rat) / ((1:Int):Rat) = 0
   decide +kernel
  rw [hv] at this
  rw [hc0]
  exact this
end Go.Off
set_option maxRecDepth 100000
set_option maxHeartbeats 4000000
namespace Go.Proofs.Ytncgbjhojbnecaa
open Go Go.Am Go.Proofs Go.RowKit Go.Off
open Nat renaming reduceAdd -> nA,reduceSub -> nS,reduceMul -> nM,reduceBEq -> nB
open Int renaming reduceToNat -> iT,reduceAdd -> iA,reduceSub -> iS,reduceMul -> iM,reduceNeg -> iN
def iAt (l:Option (List Int)) (k:Nat):Int:=(osl l).getD k 0
theorem iAt_in {l:Option (List Int)} {k:Nat} (h:k < (osl l).length):iAt l k = (osl l)[k]:=by
 unfold iAt;rw [List.getD_eq_getElem?_getD,List.getElem?_eq_getElem h];rfl
abbrev c57:CC:=(.seq (.reg [⟨some 8,none,.mv (.const (.bool false))⟩]) (.seq (.reg [⟨some 9,none,.mv (.tmp 0)⟩,⟨some 10,none,.mv (.tmp 3)⟩,⟨some 11,none,.bin .mul (.tmp 9) (.tmp 10)⟩,⟨some 12,none,.mv (.tmp 2)⟩,⟨some 13,none,.mv (.tmp 1)⟩,⟨some 14,none,.bin .mul (.tmp 12) (.tmp 13)⟩,⟨some 15,none,.bin .lss (.tmp 11) (.tmp 14)⟩,⟨some 8,none,.mv (.tmp 15)⟩]) .ret))
theorem cc57:ccode Try.prog [] (Try.f57.body.getD .skip) = some c57:=by kernel_rfl
theorem body57:Try.f57.body = some (Try.f57.body.getD .skip):=rfl
theorem less_C (n d m e:Int) (h1 : -1000000000 <= n * e /\ n * e <= 1000000000) (h2 : -1000000000 <= m * d /\ m * d <= 1000000000):PureC Try.prog 57 [aI n,aI d,aI m,aI e] (.ret (aB (decide (n * e < m * d)))):=by
 refine pureC_of (rs:=[(RV.tmp 8)]) Try.func57 (fun a w=>Try.call57 a w) body57 cc57 (by kernel_rfl) ?_
 rw [Try.ntmps57]
 simp only [frs,nA,nS]
 repeat (first | (with_reducible first | refine Way.imp ?_ | refine blk_o rfl ?_) | ((with_reducible refine WayR.imp (fun K hK=>?_));simp (disch:=first | omega | (simp only [dls];omega)) only [std,reduceIte,reduceCtorEq,iT,nA,nS,nM,iA,iS,iM,iN,fU];subst hK))
 exact ⟨_,rfl,rfl⟩
theorem mul20 {x y:Int} (hx : -20 <= x /\ x <= 20) (hy : -20 <= y /\ y <= 20) : -400 <= x * y /\ x * y <= 400:=mul_bnd hx hy
theorem piv_succ (a b:Nat -> Int) (i:Nat):pivTo a b (i + 1) = if a i ≠ 0 /\ (pivTo a b i).2 = 0 then (b i,a i) else pivTo a b i:=rfl
theorem piv_bnd {a b:Nat -> Int} (ha:∀ k,-20 <= a k /\ a k <= 20) (hb:∀ k,-20 <= b k /\ b k <= 20) (i:Nat):(-20 <= (pivTo a b i).1 /\ (pivTo a b i).1 <= 20) /\ (-20 <= (pivTo a b i).2 /\ (pivTo a b i).2 <= 20):=by
 rcases piv_spec a b i with ⟨h,_⟩ | ⟨j,_,_,h⟩
 ·rw [h];decide
 ·rw [h];exact ⟨hb j,ha j⟩
abbrev c56_k1:CC:=(.seq (.reg [⟨some 61,none,.mv (.tmp 7)⟩,⟨some 62,none,.mv (.tmp 8)⟩,⟨some 63,none,.mv (.tmp 7)⟩,⟨some 64,none,.bin .geq (.tmp 63) (.const (.int .i64 (0)))⟩,⟨some 4,none,.mv (.tmp 61)⟩,⟨some 5,none,.mv (.tmp 62)⟩,⟨some 6,none,.mv (.tmp 64)⟩]) .ret)
abbrev c56_b1:CC:=(.seq (.seq (.reg [⟨some 42,none,.mv (.tmp 10)⟩,⟨some 43,none,.mv (.tmp 0)⟩,⟨some 44,none,.len false (.tmp 43)⟩,⟨some 45,none,.bin .lss (.tmp 42) (.tmp 44)⟩]) (.cond (.tmp 45) .skip (.exit 2))) (.seq (.block 3 (.seq (.reg [⟨some 48,none,.mv (.tmp 0)⟩,⟨some 49,none,.mv (.tmp 10)⟩,⟨some 50,none,.iaddr 1 none (.tmp 48) (.tmp 49)⟩,⟨some 51,none,.load 1 false (.tmp 50)⟩,⟨some 52,none,.mv (.tmp 7)⟩,⟨some 53,none,.bin .mul (.tmp 51) (.tmp 52)⟩,⟨some 54,none,.mv (.tmp 1)⟩,⟨some 55,none,.mv (.tmp 10)⟩,⟨some 56,none,.iaddr 1 none (.tmp 54) (.tmp 55)⟩,⟨some 57,none,.load 1 false (.tmp 56)⟩,⟨some 58,none,.mv (.tmp 8)⟩,⟨some 59,none,.bin .mul (.tmp 57) (.tmp 58)⟩,⟨some 60,none,.bin .neq (.tmp 53) (.tmp 59)⟩]) (.cond (.tmp 60) (.seq (.reg [⟨some 4,none,.mv (.const (.int .i64 (0)))⟩,⟨some 5,none,.mv (.const (.int .i64 (0)))⟩,⟨some 6,none,.mv (.const (.bool false))⟩]) .ret) .skip))) (.reg [⟨some 46,none,.mv (.tmp 10)⟩,⟨some 47,none,.bin .add (.tmp 46) (.const (.int .i64 (1)))⟩,⟨some 10,none,.mv (.tmp 47)⟩])))
abbrev c56_k2:CC:=(.seq (.seq (.reg [⟨some 34,none,.mv (.tmp 8)⟩,⟨some 35,none,.bin .eql (.tmp 34) (.const (.int .i64 (0)))⟩]) (.cond (.tmp 35) (.seq (.reg [⟨some 4,none,.mv (.const (.int .i64 (0)))⟩,⟨some 5,none,.mv (.const (.int .i64 (0)))⟩,⟨some 6,none,.mv (.const (.bool false))⟩]) .ret) .skip)) (.seq (.seq (.reg [⟨some 36,none,.mv (.tmp 8)⟩,⟨some 37,none,.bin .lss (.tmp 36) (.const (.int .i64 (0)))⟩]) (.cond (.tmp 37) (.seq (.reg [⟨some 38,none,.mv (.tmp 7)⟩,⟨some 39,none,.bin .sub (.const (.int .i64 (0))) (.tmp 38)⟩,⟨some 7,none,.mv (.tmp 39)⟩]) (.reg [⟨some 40,none,.mv (.tmp 8)⟩,⟨some 41,none,.bin .sub (.const (.int .i64 (0))) (.tmp 40)⟩,⟨some 8,none,.mv (.tmp 41)⟩])) .skip)) (.seq (.seq (.reg [⟨some 10,none,.mv (.const (.int .i64 (0)))⟩]) (.block 2 (.loop c56_b1))) c56_k1)))
abbrev c56_b2:CC:=(.seq (.seq (.reg [⟨some 11,none,.mv (.tmp 9)⟩,⟨some 12,none,.mv (.tmp 0)⟩,⟨some 13,none,.len false (.tmp 12)⟩,⟨some 14,none,.bin .lss (.tmp 11) (.tmp 13)⟩]) (.cond (.tmp 14) .skip (.exit 0))) (.seq (.block 1 (.seq (.reg [⟨some 17,none,.mv (.tmp 0)⟩,⟨some 18,none,.mv (.tmp 9)⟩,⟨some 19,none,.iaddr 1 none (.tmp 17) (.tmp 18)⟩,⟨some 20,none,.load 1 false (.tmp 19)⟩,⟨some 21,none,.bin .neq (.tmp 20) (.const (.int .i64 (0)))⟩,⟨some 22,none,.mv (.tmp 21)⟩,⟨some 23,(some (22,true)),.mv (.tmp 8)⟩,⟨some 24,(some (22,true)),.bin .eql (.tmp 23) (.const (.int .i64 (0)))⟩,⟨some 25,none,.pick (.tmp 22) (.tmp 24) (.const (.bool false))⟩]) (.cond (.tmp 25) (.seq (.reg [⟨some 26,none,.mv (.tmp 1)⟩,⟨some 27,none,.mv (.tmp 9)⟩,⟨some 28,none,.iaddr 1 none (.tmp 26) (.tmp 27)⟩,⟨some 29,none,.load 1 false (.tmp 28)⟩,⟨some 7,none,.mv (.tmp 29)⟩]) (.reg [⟨some 30,none,.mv (.tmp 0)⟩,⟨some 31,none,.mv (.tmp 9)⟩,⟨some 32,none,.iaddr 1 none (.tmp 30) (.tmp 31)⟩,⟨some 33,none,.load 1 false (.tmp 32)⟩,⟨some 8,none,.mv (.tmp 33)⟩])) .skip))) (.reg [⟨some 15,none,.mv (.tmp 9)⟩,⟨some 16,none,.bin .add (.tmp 15) (.const (.int .i64 (1)))⟩,⟨some 9,none,.mv (.tmp 16)⟩])))
abbrev c56:CC:=(.seq (.reg [⟨some 4,none,.mv (.const (.int .i64 (0)))⟩,⟨some 5,none,.mv (.const (.int .i64 (0)))⟩,⟨some 6,none,.mv (.const (.bool false))⟩]) (.seq (.reg [⟨some 7,none,.mv (.const (.int .i64 (0)))⟩]) (.seq (.reg [⟨some 8,none,.mv (.const (.int .i64 (0)))⟩]) (.seq (.seq (.reg [⟨some 9,none,.mv (.const (.int .i64 (0)))⟩]) (.block 0 (.loop c56_b2))) c56_k2))))
theorem cc56:ccode Try.prog [] (Try.f56.body.getD .skip) = some c56:=by kernel_rfl
theorem body56:Try.f56.body = some (Try.f56.body.getD .skip):=rfl
theorem ones_C (a b:Option (List Int)) (hl:(osl a).length <= (osl b).length) (hn:(osl a).length <= 1000) (ha:∀ k,-20 <= iAt a k /\ iAt a k <= 20) (hb:∀ k,-20 <= iAt b k /\ iAt b k <= 20) :
  PureC Try.prog 56 [aIs a,aIs b] (.ret (.tup [aI (onesF (iAt a) (iAt b) (osl a).length).1,aI (onesF (iAt a) (iAt b) (osl a).length).2.1,aB (onesF (iAt a) (iAt b) (osl a).length).2.2])):=by
 have p0:pivTo (iAt a) (iAt b) 0 = (0,0):=rfl
 refine pureC_of (rs:=[(RV.tmp 4),(RV.tmp 5),(RV.tmp 6)]) Try.func56 (fun a w=>Try.call56 a w) body56 cc56 (by kernel_rfl) ?_
 rw [Try.ntmps56]
 simp only [frs,nA,nS]
 repeat (first | (with_reducible first | refine Way.imp ?_ | refine blk_o rfl ?_) | ((with_reducible refine WayR.imp (fun K hK=>?_));simp (disch:=first | omega | (simp only [dls];omega)) only [std,reduceIte,reduceCtorEq,iT,nA,nS,nM,iA,iS,iM,iN,fU];subst hK))
 refine awp_loop (fun (zz:Nat)=>⟨(aIs a :: aIs b :: .junk :: .junk :: .junk :: .junk :: .junk :: aI (pivTo (iAt a) (iAt b) zz).1 :: aI (pivTo (iAt a) (iAt b) zz).2 :: aI zz :: .junk :: .junk :: .junk :: .junk :: .junk :: .junk :: .junk :: .junk :: .junk :: .junk :: .junk :: .junk :: .junk :: .junk :: .junk :: .junk :: .junk :: .junk :: .junk :: .junk :: .junk :: .junk :: .junk :: .junk :: .junk :: .junk :: .junk :: .junk :: .junk :: .junk :: .junk :: .junk :: .junk :: .junk :: .junk :: .junk :: .junk :: .junk :: .junk :: .junk :: .junk :: .junk :: .junk :: .junk :: .junk :: .junk :: .junk :: .junk :: .junk :: .junk :: .junk :: .junk :: .junk :: .junk :: .junk :: []),[]⟩) (fun (zz:Nat)=>zz <= (osl a).length) (fun (zz:Nat)=>(osl a).length - zz) (0) ?hI1 (Fgt.head (Nat.zero_le 0) [true,true,false,false,false,false,false,true,true,true] ?hT1 ?hH1) ?hB1
 case hT1=>first | (simp (disch:=omega) only [hds,liveT,cleanAV,cleanCell,clean1,cleanBlk,reduceIte,iS,iA,iN,p0];done) | rfl
 case hH1=>first | (simp (disch:=omega) only [hds,liveT,cleanAV,cleanCell,clean1,cleanBlk,reduceIte,iS,iA,iN,p0];done) | rfl
 ·exact Nat.zero_le _
 rintro i hi
 have hpb:=piv_bnd ha hb i
 by_cases him:i = (osl a).length
 ·subst him
  unfold onesF
  by_cases hz:(pivTo (iAt a) (iAt b) (osl a).length).2 = 0
  ·rw [if_pos hz]
   repeat (first | (with_reducible first | refine Way.imp ?_ | refine blk_o rfl ?_) | ((with_reducible refine WayR.imp (fun K hK=>?_));simp (disch:=first | omega | (simp only [dls];omega)) only [std,reduceIte,reduceCtorEq,iT,nA,nS,nM,iA,iS,iM,iN,fU];subst hK))
   exact ⟨_,rfl,rfl⟩
  rw [if_neg hz]
  generalize hsg:sgnd (pivTo (iAt a) (iAt b) (osl a).length) = sg at *
  generalize pivTo (iAt a) (iAt b) (osl a).length = pv at *
  obtain ⟨n,d⟩:=pv
  obtain ⟨sn,sd⟩:=sg
  dsimp only at *
  have hs:(-20 <= sn /\ sn <= 20) /\ (-20 <= sd /\ sd <= 20):=by
   have:=sgnd_bnd (q:=(n,d)) hpb.1 hpb.2
   rw [hsg] at this
   exact this
  have hpos:0 < sd:=by
   have:=sgnd_pos (q:=(n,d)) hz
   rw [hsg] at this
   exact this
  have hfin:sn = (if d < 0 then 0 - n else n) /\ sd = (if d < 0 then 0 - d else d):=by
   unfold sgnd at hsg
   by_cases h:d < 0
   ·rw [if_pos h] at hsg ⊢
    rw [if_pos h]
    exact ⟨(congrArg Prod.fst hsg).symm,(congrArg Prod.snd hsg).symm⟩
   ·rw [if_neg h] at hsg ⊢
    rw [if_neg h]
    exact ⟨(congrArg Prod.fst hsg).symm,(congrArg Prod.snd hsg).symm⟩
  obtain ⟨g1,g2⟩:=hfin
  by_cases hneg:d < 0
  ·rw [if_pos hneg] at g1 g2
   repeat (first | (with_reducible first | refine Way.imp ?_ | refine blk_o rfl ?_) | ((with_reducible refine WayR.imp (fun K hK=>?_));simp (disch:=first | omega | (simp only [dls];omega)) only [std,reduceIte,reduceCtorEq,iT,nA,nS,nM,iA,iS,iM,iN,fU,<- g1,<- g2];subst hK))
   refine awp_loop (fun (zz:Nat)=>⟨(aIs a :: aIs b :: .junk :: .junk :: .junk :: .junk :: .junk :: aI sn :: aI sd :: .junk :: aI zz :: .junk :: .junk :: .junk :: .junk :: .junk :: .junk :: .junk :: .junk :: .junk :: .junk :: .junk :: .junk :: .junk :: .junk :: .junk :: .junk :: .junk :: .junk :: .junk :: .junk :: .junk :: .junk :: .junk :: .junk :: .junk :: .junk :: .junk :: .junk :: .junk :: .junk :: .junk :: .junk :: .junk :: .junk :: .junk :: .junk :: .junk :: .junk :: .junk :: .junk :: .junk :: .junk :: .junk :: .junk :: .junk :: .junk :: .junk :: .junk :: .junk :: .junk :: .junk :: .junk :: .junk :: .junk :: []),[]⟩) (fun (zz:Nat)=>zz <= (osl a).length /\ eqTo (iAt a) (iAt b) (sn,sd) zz = true) (fun (zz:Nat)=>(osl a).length - zz) (0) ?hI2 (Fgt.head (Nat.zero_le 0) [true,true,false,false,false,false,false,true,true,false,true] ?hT2 ?hH2) ?hB2
   case hT2=>first | (simp (disch:=omega) only [hds,liveT,cleanAV,cleanCell,clean1,cleanBlk,reduceIte,iS,iA,iN];done) | rfl
   case hH2=>first | (simp (disch:=omega) only [hds,liveT,cleanAV,cleanCell,clean1,cleanBlk,reduceIte,iS,iA,iN];done) | rfl
   ·exact ⟨Nat.zero_le _,rfl⟩
   rintro j ⟨hj,he⟩
   by_cases hje:j = (osl a).length
   ·rw [hje] at he
    rw [if_pos he]
    repeat (first | (with_reducible first | refine Way.imp ?_ | refine blk_o rfl ?_) | ((with_reducible refine WayR.imp (fun K hK=>?_));simp (disch:=first | omega | (simp only [dls];omega)) only [std,reduceIte,reduceCtorEq,iT,nA,nS,nM,iA,iS,iM,iN,fU];subst hK))
    exact ⟨_,rfl,rfl⟩
   ·have hlt:j < (osl a).length:=by omega
    have hltb:j < (osl b).length:=by omega
    have hai:=iAt_in hlt
    have hbi:=iAt_in hltb
    have m1:=mul20 (ha j) hs.1
    have m2:=mul20 (hb j) hs.2
    rw [hai] at m1
    rw [hbi] at m2
    by_cases hq:(osl a)[j] * sn = (osl b)[j] * sd
    ·repeat (first | (with_reducible first | refine Way.imp ?_ | refine blk_o rfl ?_) | ((with_reducible refine WayR.imp (fun K hK=>?_));simp (disch:=first | omega | (simp only [dls];omega)) only [std,reduceIte,reduceCtorEq,iT,nA,nS,nM,iA,iS,iM,iN,fU,fI];subst hK))
     refine ⟨(j + 1),?hI3,?hM3,Fgt.head (Nat.zero_le 0) [true,true,false,false,false,false,false,true,true,false,true] ?hT3 ?hH3⟩
     case hT3=>first | (simp (disch:=omega) only [hds,liveT,cleanAV,cleanCell,clean1,cleanBlk,reduceIte,iS,iA,iN];done) | rfl
     case hH3=>first | (simp (disch:=omega) only [hds,liveT,cleanAV,cleanCell,clean1,cleanBlk,reduceIte,iS,iA,iN];done) | rfl
     ·exact ⟨hlt,by rw [eqTo_succ,he,hai,hbi];exact decide_eq_true hq⟩
     ·show (osl a).length - (j + 1) < (osl a).length - j;omega
    ·rw [if_neg (by rw [eqTo_false hlt (by rw [hai,hbi];exact hq)];simp)]
     repeat (first | (with_reducible first | refine Way.imp ?_ | refine blk_o rfl ?_) | ((with_reducible refine WayR.imp (fun K hK=>?_));simp (disch:=first | omega | (simp only [dls];omega)) only [std,reduceIte,reduceCtorEq,iT,nA,nS,nM,iA,iS,iM,iN,fU,fI];subst hK))
     exact ⟨_,rfl,rfl⟩
  ·rw [if_neg hneg] at g1 g2
   subst g1
   subst g2
   repeat (first | (with_reducible first | refine Way.imp ?_ | refine blk_o rfl ?_) | ((with_reducible refine WayR.imp (fun K hK=>?_));simp (disch:=first | omega | (simp only [dls];omega)) only [std,reduceIte,reduceCtorEq,iT,nA,nS,nM,iA,iS,iM,iN,fU];subst hK))
   refine awp_loop (fun (zz:Nat)=>⟨(aIs a :: aIs b :: .junk :: .junk :: .junk :: .junk :: .junk :: aI sn :: aI sd :: .junk :: aI zz :: .junk :: .junk :: .junk :: .junk :: .junk :: .junk :: .junk :: .junk :: .junk :: .junk :: .junk :: .junk :: .junk :: .junk :: .junk :: .junk :: .junk :: .junk :: .junk :: .junk :: .junk :: .junk :: .junk :: .junk :: .junk :: .junk :: .junk :: .junk :: .junk :: .junk :: .junk :: .junk :: .junk :: .junk :: .junk :: .junk :: .junk :: .junk :: .junk :: .junk :: .junk :: .junk :: .junk :: .junk :: .junk :: .junk :: .junk :: .junk :: .junk :: .junk :: .junk :: .junk :: .junk :: .junk :: []),[]⟩) (fun (zz:Nat)=>zz <= (osl a).length /\ eqTo (iAt a) (iAt b) (sn,sd) zz = true) (fun (zz:Nat)=>(osl a).length - zz) (0) ?hI4 (Fgt.head (Nat.zero_le 0) [true,true,false,false,false,false,false,true,true,false,true] ?hT4 ?hH4) ?hB4
   case hT4=>first | (simp (disch:=omega) only [hds,liveT,cleanAV,cleanCell,clean1,cleanBlk,reduceIte,iS,iA,iN];done) | rfl
   case hH4=>first | (simp (disch:=omega) only [hds,liveT,cleanAV,cleanCell,clean1,cleanBlk,reduceIte,iS,iA,iN];done) | rfl
   ·exact ⟨Nat.zero_le _,rfl⟩
   rintro j ⟨hj,he⟩
   by_cases hje:j = (osl a).length
   ·rw [hje] at he
    rw [if_pos he]
    repeat (first | (with_reducible first | refine Way.imp ?_ | refine blk_o rfl ?_) | ((with_reducible refine WayR.imp (fun K hK=>?_));simp (disch:=first | omega | (simp only [dls];omega)) only [std,reduceIte,reduceCtorEq,iT,nA,nS,nM,iA,iS,iM,iN,fU];subst hK))
    exact ⟨_,rfl,rfl⟩
   ·have hlt:j < (osl a).length:=by omega
    have hltb:j < (osl b).length:=by omega
    have hai:=iAt_in hlt
    have hbi:=iAt_in hltb
    have m1:=mul20 (ha j) hs.1
    have m2:=mul20 (hb j) hs.2
    rw [hai] at m1
    rw [hbi] at m2
    by_cases hq:(osl a)[j] * sn = (osl b)[j] * sd
    ·repeat (first | (with_reducible first | refine Way.imp ?_ | refine blk_o rfl ?_) | ((with_reducible refine WayR.imp (fun K hK=>?_));simp (disch:=first | omega | (simp only [dls];omega)) only [std,reduceIte,reduceCtorEq,iT,nA,nS,nM,iA,iS,iM,iN,fU,fI];subst hK))
     refine ⟨(j + 1),?hI5,?hM5,Fgt.head (Nat.zero_le 0) [true,true,false,false,false,false,false,true,true,false,true] ?hT5 ?hH5⟩
     case hT5=>first | (simp (disch:=omega) only [hds,liveT,cleanAV,cleanCell,clean1,cleanBlk,reduceIte,iS,iA,iN];done) | rfl
     case hH5=>first | (simp (disch:=omega) only [hds,liveT,cleanAV,cleanCell,clean1,cleanBlk,reduceIte,iS,iA,iN];done) | rfl
     ·exact ⟨hlt,by rw [eqTo_succ,he,hai,hbi];exact decide_eq_true hq⟩
     ·show (osl a).length - (j + 1) < (osl a).length - j;omega
    ·rw [if_neg (by rw [eqTo_false hlt (by rw [hai,hbi];exact hq)];simp)]
     repeat (first | (with_reducible first | refine Way.imp ?_ | refine blk_o rfl ?_) | ((with_reducible refine WayR.imp (fun K hK=>?_));simp (disch:=first | omega | (simp only [dls];omega)) only [std,reduceIte,reduceCtorEq,iT,nA,nS,nM,iA,iS,iM,iN,fU,fI];subst hK))
     exact ⟨_,rfl,rfl⟩
 ·have hlt:i < (osl a).length:=by omega
  have hai:=iAt_in hlt
  have hbi:=iAt_in (l:=b) (show i < (osl b).length by omega)
  have hps:=piv_succ (iAt a) (iAt b) i
  by_cases h1:iAt a i = 0
  ·rw [if_neg (fun h=>h.1 h1)] at hps
   rw [hai] at h1
   repeat (first | (with_reducible first | refine Way.imp ?_ | refine blk_o rfl ?_) | ((with_reducible refine WayR.imp (fun K hK=>?_));simp (disch:=first | omega | (simp only [dls];omega)) only [std,reduceIte,reduceCtorEq,iT,nA,nS,nM,iA,iS,iM,iN,fU,fI];subst hK))
   refine ⟨(i + 1),?hI6,?hM6,Fgt.head (Nat.zero_le 0) [true,true,false,false,false,false,false,true,true,true] ?hT6 ?hH6⟩
   case hT6=>first | (simp (disch:=omega) only [hds,liveT,cleanAV,cleanCell,clean1,cleanBlk,reduceIte,iS,iA,iN,hps];done) | rfl
   case hH6=>first | (simp (disch:=omega) only [hds,liveT,cleanAV,cleanCell,clean1,cleanBlk,reduceIte,iS,iA,iN,hps];done) | rfl
   ·exact hlt
   ·show (osl a).length - (i + 1) < (osl a).length - i;omega
  ·by_cases h2:(pivTo (iAt a) (iAt b) i).2 = 0
   ·rw [if_pos ⟨h1,h2⟩,hai,hbi] at hps
    rw [hai] at h1
    repeat (first | (with_reducible first | refine Way.imp ?_ | refine blk_o rfl ?_) | ((with_reducible refine WayR.imp (fun K hK=>?_));simp (disch:=first | omega | (simp only [dls];omega)) only [std,reduceIte,reduceCtorEq,iT,nA,nS,nM,iA,iS,iM,iN,fU,fI];subst hK))
    refine ⟨(i + 1),?hI7,?hM7,Fgt.head (Nat.zero_le 0) [true,true,false,false,false,false,false,true,true,true] ?hT7 ?hH7⟩
    case hT7=>first | (simp (disch:=omega) only [hds,liveT,cleanAV,cleanCell,clean1,cleanBlk,reduceIte,iS,iA,iN,hps];done) | rfl
    case hH7=>first | (simp (disch:=omega) only [hds,liveT,cleanAV,cleanCell,clean1,cleanBlk,reduceIte,iS,iA,iN,hps];done) | rfl
    ·exact hlt
    ·show (osl a).length - (i + 1) < (osl a).length - i;omega
   ·rw [if_neg (fun h=>h2 h.2)] at hps
    rw [hai] at h1
    repeat (first | (with_reducible first | refine Way.imp ?_ | refine blk_o rfl ?_) | ((with_reducible refine WayR.imp (fun K hK=>?_));simp (disch:=first | omega | (simp only [dls];omega)) only [std,reduceIte,reduceCtorEq,iT,nA,nS,nM,iA,iS,iM,iN,fU,fI];subst hK))
    refine ⟨(i + 1),?hI8,?hM8,Fgt.head (Nat.zero_le 0) [true,true,false,false,false,false,false,true,true,true] ?hT8 ?hH8⟩
    case hT8=>first | (simp (disch:=omega) only [hds,liveT,cleanAV,cleanCell,clean1,cleanBlk,reduceIte,iS,iA,iN,hps];done) | rfl
    case hH8=>first | (simp (disch:=omega) only [hds,liveT,cleanAV,cleanCell,clean1,cleanBlk,reduceIte,iS,iA,iN,hps];done) | rfl
    ·exact hlt
    ·show (osl a).length - (i + 1) < (osl a).length - i;omega
abbrev IM:=Option (List (Option (List Int)))
def fIs (s:Option (List Int)):List CV:=[encSl 1 fI s]
abbrev aIM (a:IM):AV:=.one (.c (encSl 1 fIs a))
def mIs (a:IM) (i:Nat):Option (List Int):=(osl a).getD i none
theorem mIs_in {a:IM} {i:Nat} (h:i < (osl a).length):mIs a i = (osl a)[i]:=by
 unfold mIs;rw [List.getD_eq_getElem?_getD,List.getElem?_eq_getElem h];rfl
def gA (a:IM) (i k:Nat):Int:=iAt (mIs a i) k
theorem gA_in {a:IM} {i k:Nat} (h:i < (osl a).length) (hk:k < (osl (osl a)[i]).length):gA a i k = (osl (osl a)[i])[k]:=by
 unfold gA;rw [mIs_in h,iAt_in hk]
theorem gA_out {a:IM} {i k:Nat} (h:¬ i < (osl a).length):gA a i k = 0:=by
 unfold gA mIs
 rw [List.getD_eq_getElem?_getD,List.getElem?_eq_none (by omega)]
 rfl
def colI (a:IM) (k i:Nat):List Int:=(List.range i).map fun j=>gA a j k
theorem colI_succ (a:IM) (k i:Nat):colI a k (i + 1) = colI a k i ++ [gA a i k]:=by unfold colI;rw [List.range_succ,List.map_append];rfl
theorem colI_len (a:IM) (k i:Nat):(colI a k i).length = i:=by unfold colI;rw [List.length_map,List.length_range]
theorem colI_at (a:IM) (k:Nat):iAt (rowO (colI a k (osl a).length)) = fun i=>gA a i k:=by
 funext i
 unfold iAt
 rw [osl_rowO]
 by_cases h:i < (osl a).length
 ·exact getD_mapR _ _ i 0 h
 ·rw [gA_out h,List.getD_eq_getElem?_getD,List.getElem?_eq_none (by rw [colI_len];omega)]
  rfl
structure LeastOk (a:IM) (b c:Option (List Int)):Prop where
 two:(osl a).length <= 2
 bl:(osl b).length = (osl a).length
 cl:(osl c).length <= 6
 rl:∀ i (h:i < (osl a).length),(osl (osl a)[i]).length = (osl c).length
 sa:∀ i k,-20 <= gA a i k /\ gA a i k <= 20
 sb:∀ i,-20 <= iAt b i /\ iAt b i <= 20
 sc:(osl a).length ≠ 0 -> ∀ k,-20 <= iAt c k /\ iAt c k <= 20
theorem LeastOk.small {a:IM} {b c:Option (List Int)} (h:LeastOk a b c):SmallN (gA a) (iAt b) (iAt c) (osl a).length (osl c).length:=fun i hi k hk=>⟨h.sa i k,h.sb i,h.sc (by omega) k⟩
abbrev bsI (a:IM) (b c:Option (List Int)) (k:Nat):BS:=bestTo (gA a) (iAt b) (iAt c) (osl a).length k
abbrev inI (a:IM) (b c:Option (List Int)) (k j:Nat):BS:=innTo (gA a) (iAt b) (iAt c) (osl a).length k j
theorem bq_mul {x y:Int × Int} (hx:BndQ x) (hy:BndQ y) : -1000000000 <= x.1 * y.2 /\ x.1 * y.2 <= 1000000000:=by
 have:=mul_bnd (x:=32000) (y:=800) hx.1 ⟨by have:=hy.2.1;omega,hy.2.2⟩
 omega
abbrev c21_k1:CC:=(.seq (.reg [⟨some 221,none,.mv (.tmp 11)⟩,⟨some 222,none,.mv (.tmp 12)⟩,⟨some 223,none,.mv (.tmp 9)⟩,⟨some 6,none,.mv (.tmp 221)⟩,⟨some 7,none,.mv (.tmp 222)⟩,⟨some 8,none,.mv (.tmp 223)⟩]) .ret)
abbrev c21_k2:CC:=(.reg [⟨some 38,none,.mv (.tmp 13)⟩,⟨some 39,none,.bin .add (.tmp 38) (.const (.int .i64 (1)))⟩,⟨some 13,none,.mv (.tmp 39)⟩])
abbrev c21_b1:CC:=(.seq (.seq (.reg [⟨some 87,none,.mv (.tmp 19)⟩,⟨some 88,none,.mv (.tmp 13)⟩,⟨some 89,none,.bin .lss (.tmp 87) (.tmp 88)⟩,⟨some 90,none,.mv (.tmp 89)⟩,⟨some 91,(some (90,true)),.mv (.tmp 0)⟩,⟨some 92,(some (90,true)),.len false (.tmp 91)⟩,⟨some 93,(some (90,true)),.bin .eql (.tmp 92) (.const (.int .i64 (2)))⟩,⟨some 94,none,.pick (.tmp 90) (.tmp 93) (.const (.bool false))⟩]) (.cond (.tmp 94) .skip (.exit 6))) (.seq (.block 7 (.seq (.reg [⟨some 97,none,.mv (.tmp 0)⟩,⟨some 98,none,.iaddr 1 none (.tmp 97) (.const (.int .i64 (0)))⟩,⟨some 99,none,.load 1 false (.tmp 98)⟩,⟨some 100,none,.mv (.tmp 19)⟩,⟨some 101,none,.iaddr 1 none (.tmp 99) (.tmp 100)⟩,⟨some 102,none,.load 1 false (.tmp 101)⟩,⟨some 103,none,.mv (.tmp 0)⟩,⟨some 104,none,.iaddr 1 none (.tmp 103) (.const (.int .i64 (1)))⟩,⟨some 105,none,.load 1 false (.tmp 104)⟩,⟨some 106,none,.mv (.tmp 13)⟩,⟨some 107,none,.iaddr 1 none (.tmp 105) (.tmp 106)⟩,⟨some 108,none,.load 1 false (.tmp 107)⟩,⟨some 109,none,.bin .mul (.tmp 102) (.tmp 108)⟩,⟨some 110,none,.mv (.tmp 0)⟩,⟨some 111,none,.iaddr 1 none (.tmp 110) (.const (.int .i64 (0)))⟩,⟨some 112,none,.load 1 false (.tmp 111)⟩,⟨some 113,none,.mv (.tmp 13)⟩,⟨some 114,none,.iaddr 1 none (.tmp 112) (.tmp 113)⟩,⟨some 115,none,.load 1 false (.tmp 114)⟩,⟨some 116,none,.mv (.tmp 0)⟩,⟨some 117,none,.iaddr 1 none (.tmp 116) (.const (.int .i64 (1)))⟩,⟨some 118,none,.load 1 false (.tmp 117)⟩,⟨some 119,none,.mv (.tmp 19)⟩,⟨some 120,none,.iaddr 1 none (.tmp 118) (.tmp 119)⟩,⟨some 121,none,.load 1 false (.tmp 120)⟩,⟨some 122,none,.bin .mul (.tmp 115) (.tmp 121)⟩,⟨some 123,none,.bin .sub (.tmp 109) (.tmp 122)⟩,⟨some 20,none,.mv (.tmp 123)⟩]) (.seq (.reg [⟨some 124,none,.mv (.tmp 1)⟩,⟨some 125,none,.iaddr 1 none (.tmp 124) (.const (.int .i64 (0)))⟩,⟨some 126,none,.load 1 false (.tmp 125)⟩,⟨some 127,none,.mv (.tmp 0)⟩,⟨some 128,none,.iaddr 1 none (.tmp 127) (.const (.int .i64 (1)))⟩,⟨some 129,none,.load 1 false (.tmp 128)⟩,⟨some 130,none,.mv (.tmp 13)⟩,⟨some 131,none,.iaddr 1 none (.tmp 129) (.tmp 130)⟩,⟨some 132,none,.load 1 false (.tmp 131)⟩,⟨some 133,none,.bin .mul (.tmp 126) (.tmp 132)⟩,⟨some 134,none,.mv (.tmp 0)⟩,⟨some 135,none,.iaddr 1 none (.tmp 134) (.const (.int .i64 (0)))⟩,⟨some 136,none,.load 1 false (.tmp 135)⟩,⟨some 137,none,.mv (.tmp 13)⟩,⟨some 138,none,.iaddr 1 none (.tmp 136) (.tmp 137)⟩,⟨some 139,none,.load 1 false (.tmp 138)⟩,⟨some 140,none,.mv (.tmp 1)⟩,⟨some 141,none,.iaddr 1 none (.tmp 140) (.const (.int .i64 (1)))⟩,⟨some 142,none,.load 1 false (.tmp 141)⟩,⟨some 143,none,.bin .mul (.tmp 139) (.tmp 142)⟩,⟨some 144,none,.bin .sub (.tmp 133) (.tmp 143)⟩,⟨some 21,none,.mv (.tmp 144)⟩]) (.seq (.reg [⟨some 145,none,.mv (.tmp 0)⟩,⟨some 146,none,.iaddr 1 none (.tmp 145) (.const (.int .i64 (0)))⟩,⟨some 147,none,.load 1 false (.tmp 146)⟩,⟨some 148,none,.mv (.tmp 19)⟩,⟨some 149,none,.iaddr 1 none (.tmp 147) (.tmp 148)⟩,⟨some 150,none,.load 1 false (.tmp 149)⟩,⟨some 151,none,.mv (.tmp 1)⟩,⟨some 152,none,.iaddr 1 none (.tmp 151) (.const (.int .i64 (1)))⟩,⟨some 153,none,.load 1 false (.tmp 152)⟩,⟨some 154,none,.bin .mul (.tmp 150) (.tmp 153)⟩,⟨some 155,none,.mv (.tmp 1)⟩,⟨some 156,none,.iaddr 1 none (.tmp 155) (.const (.int .i64 (0)))⟩,⟨some 157,none,.load 1 false (.tmp 156)⟩,⟨some 158,none,.mv (.tmp 0)⟩,⟨some 159,none,.iaddr 1 none (.tmp 158) (.const (.int .i64 (1)))⟩,⟨some 160,none,.load 1 false (.tmp 159)⟩,⟨some 161,none,.mv (.tmp 19)⟩,⟨some 162,none,.iaddr 1 none (.tmp 160) (.tmp 161)⟩,⟨some 163,none,.load 1 false (.tmp 162)⟩,⟨some 164,none,.bin .mul (.tmp 157) (.tmp 163)⟩,⟨some 165,none,.bin .sub (.tmp 154) (.tmp 164)⟩,⟨some 22,none,.mv (.tmp 165)⟩]) (.seq (.seq (.reg [⟨some 166,none,.mv (.tmp 20)⟩,⟨some 167,none,.bin .lss (.tmp 166) (.const (.int .i64 (0)))⟩]) (.cond (.tmp 167) (.seq (.reg [⟨some 168,none,.mv (.tmp 20)⟩,⟨some 169,none,.bin .sub (.const (.int .i64 (0))) (.tmp 168)⟩,⟨some 20,none,.mv (.tmp 169)⟩]) (.seq (.reg [⟨some 170,none,.mv (.tmp 21)⟩,⟨some 171,none,.bin .sub (.const (.int .i64 (0))) (.tmp 170)⟩,⟨some 21,none,.mv (.tmp 171)⟩]) (.reg [⟨some 172,none,.mv (.tmp 22)⟩,⟨some 173,none,.bin .sub (.const (.int .i64 (0))) (.tmp 172)⟩,⟨some 22,none,.mv (.tmp 173)⟩]))) .skip)) (.seq (.reg [⟨some 174,none,.mv (.tmp 20)⟩,⟨some 175,none,.bin .gtr (.tmp 174) (.const (.int .i64 (0)))⟩,⟨some 176,none,.mv (.tmp 175)⟩,⟨some 177,(some (176,true)),.mv (.tmp 21)⟩,⟨some 178,(some (176,true)),.bin .geq (.tmp 177) (.const (.int .i64 (0)))⟩,⟨some 179,none,.pick (.tmp 176) (.tmp 178) (.const (.bool false))⟩,⟨some 180,none,.mv (.tmp 179)⟩,⟨some 181,(some (180,true)),.mv (.tmp 22)⟩,⟨some 182,(some (180,true)),.bin .geq (.tmp 181) (.const (.int .i64 (0)))⟩,⟨some 183,none,.pick (.tmp 180) (.tmp 182) (.const (.bool false))⟩,⟨some 184,none,.mv (.tmp 183)⟩,⟨some 185,(some (184,true)),.mv (.tmp 9)⟩,⟨some 186,(some (184,true)),.un .not (.tmp 185)⟩,⟨some 187,(some (184,true)),.mv (.tmp 186)⟩,⟨some 188,(some (187,false)),.mv (.tmp 21)⟩,⟨some 189,(some (187,false)),.mv (.tmp 2)⟩,⟨some 190,(some (187,false)),.mv (.tmp 19)⟩,⟨some 191,(some (187,false)),.iaddr 1 none (.tmp 189) (.tmp 190)⟩,⟨some 192,(some (187,false)),.load 1 false (.tmp 191)⟩,⟨some 193,(some (187,false)),.bin .mul (.tmp 188) (.tmp 192)⟩,⟨some 194,(some (187,false)),.mv (.tmp 22)⟩,⟨some 195,(some (187,false)),.mv (.tmp 2)⟩,⟨some 196,(some (187,false)),.mv (.tmp 13)⟩,⟨some 197,(some (187,false)),.iaddr 1 none (.tmp 195) (.tmp 196)⟩,⟨some 198,(some (187,false)),.load 1 false (.tmp 197)⟩,⟨some 199,(some (187,false)),.bin .mul (.tmp 194) (.tmp 198)⟩,⟨some 200,(some (187,false)),.bin .add (.tmp 193) (.tmp 199)⟩,⟨some 201,(some (187,false)),.mv (.tmp 20)⟩,⟨some 202,(some (187,false)),.mv (.tmp 11)⟩,⟨some 203,(some (187,false)),.mv (.tmp 12)⟩,⟨some 204,(some (187,false)),.callf (.func 57) [(.tmp 200),(.tmp 201),(.tmp 202),(.tmp 203)]⟩,⟨some 205,(some (184,true)),.pick (.tmp 187) (.const (.bool true)) (.tmp 204)⟩,⟨some 206,none,.pick (.tmp 184) (.tmp 205) (.const (.bool false))⟩]) (.cond (.tmp 206) (.seq (.reg [⟨some 9,none,.mv (.const (.bool true))⟩]) (.seq (.reg [⟨some 207,none,.mv (.tmp 21)⟩,⟨some 208,none,.mv (.tmp 2)⟩,⟨some 209,none,.mv (.tmp 19)⟩,⟨some 210,none,.iaddr 1 none (.tmp 208) (.tmp 209)⟩,⟨some 211,none,.load 1 false (.tmp 210)⟩,⟨some 212,none,.bin .mul (.tmp 207) (.tmp 211)⟩,⟨some 213,none,.mv (.tmp 22)⟩,⟨some 214,none,.mv (.tmp 2)⟩,⟨some 215,none,.mv (.tmp 13)⟩,⟨some 216,none,.iaddr 1 none (.tmp 214) (.tmp 215)⟩,⟨some 217,none,.load 1 false (.tmp 216)⟩,⟨some 218,none,.bin .mul (.tmp 213) (.tmp 217)⟩,⟨some 219,none,.bin .add (.tmp 212) (.tmp 218)⟩,⟨some 11,none,.mv (.tmp 219)⟩]) (.reg [⟨some 220,none,.mv (.tmp 20)⟩,⟨some 12,none,.mv (.tmp 220)⟩]))) .skip))))))) (.reg [⟨some 95,none,.mv (.tmp 19)⟩,⟨some 96,none,.bin .add (.tmp 95) (.const (.int .i64 (1)))⟩,⟨some 19,none,.mv (.tmp 96)⟩])))
abbrev c21_k3:CC:=(.seq (.reg [⟨some 57,none,.mv (.tmp 14)⟩,⟨some 58,none,.mv (.tmp 1)⟩,⟨some 59,none,.callf (.func 56) [(.tmp 57),(.tmp 58)]⟩,⟨some 56,none,.mv (.tmp 59)⟩,⟨some 60,none,.ext (.tmp 56) 0⟩,⟨some 61,none,.ext (.tmp 56) 1⟩,⟨some 62,none,.ext (.tmp 56) 2⟩,⟨some 16,none,.mv (.tmp 60)⟩,⟨some 17,none,.mv (.tmp 61)⟩,⟨some 18,none,.mv (.tmp 62)⟩]) (.seq (.seq (.reg [⟨some 63,none,.mv (.tmp 18)⟩,⟨some 64,none,.mv (.tmp 63)⟩,⟨some 65,(some (64,true)),.mv (.tmp 9)⟩,⟨some 66,(some (64,true)),.un .not (.tmp 65)⟩,⟨some 67,(some (64,true)),.mv (.tmp 66)⟩,⟨some 68,(some (67,false)),.mv (.tmp 16)⟩,⟨some 69,(some (67,false)),.mv (.tmp 2)⟩,⟨some 70,(some (67,false)),.mv (.tmp 13)⟩,⟨some 71,(some (67,false)),.iaddr 1 none (.tmp 69) (.tmp 70)⟩,⟨some 72,(some (67,false)),.load 1 false (.tmp 71)⟩,⟨some 73,(some (67,false)),.bin .mul (.tmp 68) (.tmp 72)⟩,⟨some 74,(some (67,false)),.mv (.tmp 17)⟩,⟨some 75,(some (67,false)),.mv (.tmp 11)⟩,⟨some 76,(some (67,false)),.mv (.tmp 12)⟩,⟨some 77,(some (67,false)),.callf (.func 57) [(.tmp 73),(.tmp 74),(.tmp 75),(.tmp 76)]⟩,⟨some 78,(some (64,true)),.pick (.tmp 67) (.const (.bool true)) (.tmp 77)⟩,⟨some 79,none,.pick (.tmp 64) (.tmp 78) (.const (.bool false))⟩]) (.cond (.tmp 79) (.seq (.reg [⟨some 9,none,.mv (.const (.bool true))⟩]) (.seq (.reg [⟨some 80,none,.mv (.tmp 16)⟩,⟨some 81,none,.mv (.tmp 2)⟩,⟨some 82,none,.mv (.tmp 13)⟩,⟨some 83,none,.iaddr 1 none (.tmp 81) (.tmp 82)⟩,⟨some 84,none,.load 1 false (.tmp 83)⟩,⟨some 85,none,.bin .mul (.tmp 80) (.tmp 84)⟩,⟨some 11,none,.mv (.tmp 85)⟩]) (.reg [⟨some 86,none,.mv (.tmp 17)⟩,⟨some 12,none,.mv (.tmp 86)⟩]))) .skip)) (.seq (.reg [⟨some 19,none,.mv (.const (.int .i64 (0)))⟩]) (.block 6 (.loop c21_b1)))))
abbrev c21_b2:CC:=(.seq (.seq (.reg [⟨some 40,none,.mv (.tmp 15)⟩,⟨some 41,none,.mv (.tmp 0)⟩,⟨some 42,none,.len false (.tmp 41)⟩,⟨some 43,none,.bin .lss (.tmp 40) (.tmp 42)⟩]) (.cond (.tmp 43) .skip (.exit 4))) (.seq (.block 5 (.reg [⟨some 46,none,.mv (.tmp 14)⟩,⟨some 47,none,.mv (.tmp 0)⟩,⟨some 48,none,.mv (.tmp 15)⟩,⟨some 49,none,.iaddr 1 none (.tmp 47) (.tmp 48)⟩,⟨some 50,none,.load 1 false (.tmp 49)⟩,⟨some 51,none,.mv (.tmp 13)⟩,⟨some 52,none,.iaddr 1 none (.tmp 50) (.tmp 51)⟩,⟨some 53,none,.load 1 false (.tmp 52)⟩,⟨some 54,none,.mkrow 3 1 [(.tmp 53)]⟩,⟨some 55,none,.append 3 1 8 (.tmp 46) (.tmp 54)⟩,⟨some 14,none,.mv (.tmp 55)⟩])) (.reg [⟨some 44,none,.mv (.tmp 15)⟩,⟨some 45,none,.bin .add (.tmp 44) (.const (.int .i64 (1)))⟩,⟨some 15,none,.mv (.tmp 45)⟩])))
abbrev c21_b3:CC:=(.seq (.seq (.reg [⟨some 34,none,.mv (.tmp 13)⟩,⟨some 35,none,.mv (.tmp 2)⟩,⟨some 36,none,.len false (.tmp 35)⟩,⟨some 37,none,.bin .lss (.tmp 34) (.tmp 36)⟩]) (.cond (.tmp 37) .skip (.exit 2))) (.seq (.block 3 (.seq (.reg [⟨some 14,none,.mv (.const (.slice none 0 0))⟩]) (.seq (.seq (.reg [⟨some 15,none,.mv (.const (.int .i64 (0)))⟩]) (.block 4 (.loop c21_b2))) c21_k3))) c21_k2))
abbrev c21_k4:CC:=(.seq (.reg [⟨some 11,none,.mv (.const (.int .i64 (0)))⟩]) (.seq (.reg [⟨some 12,none,.mv (.const (.int .i64 (1)))⟩]) (.seq (.seq (.reg [⟨some 13,none,.mv (.const (.int .i64 (0)))⟩]) (.block 2 (.loop c21_b3))) c21_k1)))
abbrev c21_b4:CC:=(.seq (.seq (.reg [⟨some 23,none,.mv (.tmp 10)⟩,⟨some 24,none,.mv (.tmp 1)⟩,⟨some 25,none,.len false (.tmp 24)⟩,⟨some 26,none,.bin .lss (.tmp 23) (.tmp 25)⟩]) (.cond (.tmp 26) .skip (.exit 0))) (.seq (.block 1 (.seq (.reg [⟨some 29,none,.mv (.tmp 1)⟩,⟨some 30,none,.mv (.tmp 10)⟩,⟨some 31,none,.iaddr 1 none (.tmp 29) (.tmp 30)⟩,⟨some 32,none,.load 1 false (.tmp 31)⟩,⟨some 33,none,.bin .neq (.tmp 32) (.const (.int .i64 (0)))⟩]) (.cond (.tmp 33) (.reg [⟨some 9,none,.mv (.const (.bool false))⟩]) .skip))) (.reg [⟨some 27,none,.mv (.tmp 10)⟩,⟨some 28,none,.bin .add (.tmp 27) (.const (.int .i64 (1)))⟩,⟨some 10,none,.mv (.tmp 28)⟩])))
abbrev c21:CC:=(.seq (.reg [⟨some 6,none,.mv (.const (.int .i64 (0)))⟩,⟨some 7,none,.mv (.const (.int .i64 (0)))⟩,⟨some 8,none,.mv (.const (.bool false))⟩]) (.seq (.reg [⟨some 9,none,.mv (.const (.bool true))⟩]) (.seq (.seq (.reg [⟨some 10,none,.mv (.const (.int .i64 (0)))⟩]) (.block 0 (.loop c21_b4))) c21_k4)))
theorem cc21:ccode Try.prog [] (Try.f21.body.getD .skip) = some c21:=by kernel_rfl
theorem body21:Try.f21.body = some (Try.f21.body.getD .skip):=rfl
theorem best_C (a:IM) (b c:Option (List Int)) (h:LeastOk a b c):PureC Try.prog 21 [aIM a,aIs b,aIs c] (.ret (.tup [aI (bsI a b c (osl c).length).n,aI (bsI a b c (osl c).length).d,aB (bsI a b c (osl c).length).f])):=by
 have hsm:=h.small
 have hbl:=h.bl
 have h2:=h.two
 have hcl:=h.cl
 have z0:zerTo (iAt b) 0 = true:=rfl
 refine pureC_of (rs:=[(RV.tmp 6),(RV.tmp 7),(RV.tmp 8)]) Try.func21 (fun a w=>Try.call21 a w) body21 cc21 (by kernel_rfl) ?_
 rw [Try.ntmps21]
 simp only [frs,nA,nS]
 repeat (first | (with_reducible first | refine Way.imp ?_ | refine blk_o rfl ?_) | ((with_reducible refine WayR.imp (fun K hK=>?_));simp (disch:=first | omega | (simp only [dls];omega)) only [std,reduceIte,reduceCtorEq,iT,nA,nS,nM,iA,iS,iM,iN,fU];subst hK))
 refine awp_loop (fun (zz:Nat)=>⟨(aIM a :: aIs b :: aIs c :: .junk :: .junk :: .junk :: .junk :: .junk :: .junk :: aB (zerTo (iAt b) zz) :: aI zz :: .junk :: .junk :: .junk :: .junk :: .junk :: .junk :: .junk :: .junk :: .junk :: .junk :: .junk :: .junk :: .junk :: .junk :: .junk :: .junk :: .junk :: .junk :: .junk :: .junk :: .junk :: .junk :: .junk :: .junk :: .junk :: .junk :: .junk :: .junk :: .junk :: .junk :: .junk :: .junk :: .junk :: .junk :: .junk :: .junk :: .junk :: .junk :: .junk :: .junk :: .junk :: .junk :: .junk :: .junk :: .junk :: .junk :: .junk :: .junk :: .junk :: .junk :: .junk :: .junk :: .junk :: .junk :: .junk :: .junk :: .junk :: .junk :: .junk :: .junk :: .junk :: .junk :: .junk :: .junk :: .junk :: .junk :: .junk :: .junk :: .junk :: .junk :: .junk :: .junk :: .junk :: .junk :: .junk :: .junk :: .junk :: .junk :: .junk :: .junk :: .junk :: .junk :: .junk :: .junk :: .junk :: .junk :: .junk :: .junk :: .junk :: .junk :: .junk :: .junk :: .junk :: .junk :: .junk :: .junk :: .junk :: .junk :: .junk :: .junk :: .junk :: .junk :: .junk :: .junk :: .junk :: .junk :: .junk :: .junk :: .junk :: .junk :: .junk :: .junk :: .junk :: .junk :: .junk :: .junk :: .junk :: .junk :: .junk :: .junk :: .junk :: .junk :: .junk :: .junk :: .junk :: .junk :: .junk :: .junk :: .junk :: .junk :: .junk :: .junk :: .junk :: .junk :: .junk :: .junk :: .junk :: .junk :: .junk :: .junk :: .junk :: .junk :: .junk :: .junk :: .junk :: .junk :: .junk :: .junk :: .junk :: .junk :: .junk :: .junk :: .junk :: .junk :: .junk :: .junk :: .junk :: .junk :: .junk :: .junk :: .junk :: .junk :: .junk :: .junk :: .junk :: .junk :: .junk :: .junk :: .junk :: .junk :: .junk :: .junk :: .junk :: .junk :: .junk :: .junk :: .junk :: .junk :: .junk :: .junk :: .junk :: .junk :: .junk :: .junk :: .junk :: .junk :: .junk :: .junk :: .junk :: .junk :: .junk :: .junk :: .junk :: .junk :: .junk :: .junk :: .junk :: .junk :: .junk :: .junk :: .junk :: .junk :: .junk :: .junk :: .junk :: .junk :: .junk :: .junk :: .junk :: .junk :: .junk :: .junk :: .junk :: []),[]⟩) (fun (zz:Nat)=>zz <= (osl b).length) (fun (zz:Nat)=>(osl b).length - zz) (0) ?hI1 (Fgt.head (Nat.zero_le 0) [true,true,true,false,false,false,false,false,false,true,true] ?hT1 ?hH1) ?hB1
 case hT1=>first | (simp (disch:=omega) only [hds,liveT,cleanAV,cleanCell,clean1,cleanBlk,reduceIte,iS,iA,iN,z0];done) | rfl
 case hH1=>first | (simp (disch:=omega) only [hds,liveT,cleanAV,cleanCell,clean1,cleanBlk,reduceIte,iS,iA,iN,z0];done) | rfl
 ·exact Nat.zero_le _
 rintro i hi
 by_cases him:i = (osl b).length
 case neg =>
  have hlt:i < (osl b).length:=by omega
  have hbi:=iAt_in hlt
  have hzs:=zerTo_succ (iAt b) i
  by_cases hz:(osl b)[i] = 0
  ·rw [hbi,decide_eq_true hz,Bool.and_true] at hzs
   repeat (first | (with_reducible first | refine Way.imp ?_ | refine blk_o rfl ?_) | ((with_reducible refine WayR.imp (fun K hK=>?_));simp (disch:=first | omega | (simp only [dls];omega)) only [std,reduceIte,reduceCtorEq,iT,nA,nS,nM,iA,iS,iM,iN,fU,fI];subst hK))
   refine ⟨(i + 1),?hI2,?hM2,Fgt.head (Nat.zero_le 0) [true,true,true,false,false,false,false,false,false,true,true] ?hT2 ?hH2⟩
   case hT2=>first | (simp (disch:=omega) only [hds,liveT,cleanAV,cleanCell,clean1,cleanBlk,reduceIte,iS,iA,iN,hzs];done) | rfl
   case hH2=>first | (simp (disch:=omega) only [hds,liveT,cleanAV,cleanCell,clean1,cleanBlk,reduceIte,iS,iA,iN,hzs];done) | rfl
   ·exact hlt
   ·show (osl b).length - (i + 1) < (osl b).length - i;omega
  ·rw [hbi,decide_eq_false hz,Bool.and_false] at hzs
   repeat (first | (with_reducible first | refine Way.imp ?_ | refine blk_o rfl ?_) | ((with_reducible refine WayR.imp (fun K hK=>?_));simp (disch:=first | omega | (simp only [dls];omega)) only [std,reduceIte,reduceCtorEq,iT,nA,nS,nM,iA,iS,iM,iN,fU,fI];subst hK))
   refine ⟨(i + 1),?hI3,?hM3,Fgt.head (Nat.zero_le 0) [true,true,true,false,false,false,false,false,false,true,true] ?hT3 ?hH3⟩
   case hT3=>first | (simp (disch:=omega) only [hds,liveT,cleanAV,cleanCell,clean1,cleanBlk,reduceIte,iS,iA,iN,hzs];done) | rfl
   case hH3=>first | (simp (disch:=omega) only [hds,liveT,cleanAV,cleanCell,clean1,cleanBlk,reduceIte,iS,iA,iN,hzs];done) | rfl
   ·exact hlt
   ·show (osl b).length - (i + 1) < (osl b).length - i;omega
 have b0:bsI a b c 0 = ⟨0,1,zerTo (iAt b) i⟩:=by rw [him,hbl];rfl
 have b0n:(bsI a b c 0).n = 0:=by rw [b0]
 have b0d:(bsI a b c 0).d = 1:=by rw [b0]
 have b0f:(bsI a b c 0).f = zerTo (iAt b) i:=by rw [b0]
 repeat (first | (with_reducible first | refine Way.imp ?_ | refine blk_o rfl ?_) | ((with_reducible refine WayR.imp (fun K hK=>?_));simp (disch:=first | omega | (simp only [dls];omega)) only [std,reduceIte,reduceCtorEq,iT,nA,nS,nM,iA,iS,iM,iN,fU];subst hK))
 refine awp_loop (fun (zz:Nat)=>⟨(aIM a :: aIs b :: aIs c :: .junk :: .junk :: .junk :: .junk :: .junk :: .junk :: aB (bsI a b c zz).f :: .junk :: aI (bsI a b c zz).n :: aI (bsI a b c zz).d :: aI zz :: .junk :: .junk :: .junk :: .junk :: .junk :: .junk :: .junk :: .junk :: .junk :: .junk :: .junk :: .junk :: .junk :: .junk :: .junk :: .junk :: .junk :: .junk :: .junk :: .junk :: .junk :: .junk :: .junk :: .junk :: .junk :: .junk :: .junk :: .junk :: .junk :: .junk :: .junk :: .junk :: .junk :: .junk :: .junk :: .junk :: .junk :: .junk :: .junk :: .junk :: .junk :: .junk :: .junk :: .junk :: .junk :: .junk :: .junk :: .junk :: .junk :: .junk :: .junk :: .junk :: .junk :: .junk :: .junk :: .junk :: .junk :: .junk :: .junk :: .junk :: .junk :: .junk :: .junk :: .junk :: .junk :: .junk :: .junk :: .junk :: .junk :: .junk :: .junk :: .junk :: .junk :: .junk :: .junk :: .junk :: .junk :: .junk :: .junk :: .junk :: .junk :: .junk :: .junk :: .junk :: .junk :: .junk :: .junk :: .junk :: .junk :: .junk :: .junk :: .junk :: .junk :: .junk :: .junk :: .junk :: .junk :: .junk :: .junk :: .junk :: .junk :: .junk :: .junk :: .junk :: .junk :: .junk :: .junk :: .junk :: .junk :: .junk :: .junk :: .junk :: .junk :: .junk :: .junk :: .junk :: .junk :: .junk :: .junk :: .junk :: .junk :: .junk :: .junk :: .junk :: .junk :: .junk :: .junk :: .junk :: .junk :: .junk :: .junk :: .junk :: .junk :: .junk :: .junk :: .junk :: .junk :: .junk :: .junk :: .junk :: .junk :: .junk :: .junk :: .junk :: .junk :: .junk :: .junk :: .junk :: .junk :: .junk :: .junk :: .junk :: .junk :: .junk :: .junk :: .junk :: .junk :: .junk :: .junk :: .junk :: .junk :: .junk :: .junk :: .junk :: .junk :: .junk :: .junk :: .junk :: .junk :: .junk :: .junk :: .junk :: .junk :: .junk :: .junk :: .junk :: .junk :: .junk :: .junk :: .junk :: .junk :: .junk :: .junk :: .junk :: .junk :: .junk :: .junk :: .junk :: .junk :: .junk :: .junk :: .junk :: .junk :: .junk :: .junk :: .junk :: .junk :: .junk :: .junk :: .junk :: .junk :: .junk :: .junk :: .junk :: .junk :: .junk :: .junk :: .junk :: .junk :: .junk :: []),[]⟩) (fun (zz:Nat)=>zz <= (osl c).length) (fun (zz:Nat)=>(osl c).length - zz) (0) ?hI4 (Fgt.head (Nat.zero_le 0) [true,true,true,false,false,false,false,false,false,true,false,true,true,true] ?hT4 ?hH4) ?hB4
 case hT4=>first | (simp (disch:=omega) only [hds,liveT,cleanAV,cleanCell,clean1,cleanBlk,reduceIte,iS,iA,iN,b0n,b0d,b0f];done) | rfl
 case hH4=>first | (simp (disch:=omega) only [hds,liveT,cleanAV,cleanCell,clean1,cleanBlk,reduceIte,iS,iA,iN,b0n,b0d,b0f];done) | rfl
 ·exact Nat.zero_le _
 rintro k hk
 by_cases hkm:k = (osl c).length
 ·rw [hkm]
  generalize bsI a b c (osl c).length = s at *
  repeat (first | (with_reducible first | refine Way.imp ?_ | refine blk_o rfl ?_) | ((with_reducible refine WayR.imp (fun K hK=>?_));simp (disch:=first | omega | (simp only [dls];omega)) only [std,reduceIte,reduceCtorEq,iT,nA,nS,nM,iA,iS,iM,iN,fU];subst hK))
  exact ⟨_,rfl,rfl⟩
 have hkl:k < (osl c).length:=by omega
 have hck:=iAt_in hkl
 have hbn:BndQ ((bsI a b c k).n,(bsI a b c k).d):=best_bnd hsm k hk
 repeat (first | (with_reducible first | refine Way.imp ?_ | refine blk_o rfl ?_) | ((with_reducible refine WayR.imp (fun K hK=>?_));simp (disch:=first | omega | (simp only [dls];omega)) only [std,reduceIte,reduceCtorEq,iT,nA,nS,nM,iA,iS,iM,iN,fU];subst hK))
 refine AWp.fgt ?_ (Fgt.openNil (i:=14) rfl 3 1)
 simp only [List.set_cons_succ,List.set_cons_zero,List.length_nil,List.length_cons,List.nil_append,List.cons_append,nA]
 refine awp_loop (fun (zz:Nat × (List Int) × Nat × Bool)=>⟨(aIM a :: aIs b :: aIs c :: .junk :: .junk :: .junk :: .junk :: .junk :: .junk :: aB (bsI a b c k).f :: .junk :: aI (bsI a b c k).n :: aI (bsI a b c k).d :: aI k :: .one (.own 0 zz.2.2.1) :: aI zz.1 :: .junk :: .junk :: .junk :: .junk :: .junk :: .junk :: .junk :: .junk :: .junk :: .junk :: .junk :: .junk :: .junk :: .junk :: .junk :: .junk :: .junk :: .junk :: .junk :: .junk :: .junk :: .junk :: .junk :: .junk :: .junk :: .junk :: .junk :: .junk :: .junk :: .junk :: .junk :: .junk :: .junk :: .junk :: .junk :: .junk :: .junk :: .junk :: .junk :: .junk :: .junk :: .junk :: .junk :: .junk :: .junk :: .junk :: .junk :: .junk :: .junk :: .junk :: .junk :: .junk :: .junk :: .junk :: .junk :: .junk :: .junk :: .junk :: .junk :: .junk :: .junk :: .junk :: .junk :: .junk :: .junk :: .junk :: .junk :: .junk :: .junk :: .junk :: .junk :: .junk :: .junk :: .junk :: .junk :: .junk :: .junk :: .junk :: .junk :: .junk :: .junk :: .junk :: .junk :: .junk :: .junk :: .junk :: .junk :: .junk :: .junk :: .junk :: .junk :: .junk :: .junk :: .junk :: .junk :: .junk :: .junk :: .junk :: .junk :: .junk :: .junk :: .junk :: .junk :: .junk :: .junk :: .junk :: .junk :: .junk :: .junk :: .junk :: .junk :: .junk :: .junk :: .junk :: .junk :: .junk :: .junk :: .junk :: .junk :: .junk :: .junk :: .junk :: .junk :: .junk :: .junk :: .junk :: .junk :: .junk :: .junk :: .junk :: .junk :: .junk :: .junk :: .junk :: .junk :: .junk :: .junk :: .junk :: .junk :: .junk :: .junk :: .junk :: .junk :: .junk :: .junk :: .junk :: .junk :: .junk :: .junk :: .junk :: .junk :: .junk :: .junk :: .junk :: .junk :: .junk :: .junk :: .junk :: .junk :: .junk :: .junk :: .junk :: .junk :: .junk :: .junk :: .junk :: .junk :: .junk :: .junk :: .junk :: .junk :: .junk :: .junk :: .junk :: .junk :: .junk :: .junk :: .junk :: .junk :: .junk :: .junk :: .junk :: .junk :: .junk :: .junk :: .junk :: .junk :: .junk :: .junk :: .junk :: .junk :: .junk :: .junk :: .junk :: .junk :: .junk :: .junk :: .junk :: .junk :: .junk :: .junk :: .junk :: .junk :: .junk :: .junk :: .junk :: .junk :: .junk :: []),[⟨zz.2.2.1,3,1,encB fI zz.2.1,true,zz.2.2.2⟩]⟩) (fun (zz:Nat × (List Int) × Nat × Bool)=>zz.1 <= (osl a).length /\ zz.2.1 = colI a k zz.1 /\ zz.2.2.2 = !zz.2.1.isEmpty) (fun (zz:Nat × (List Int) × Nat × Bool)=>(osl a).length - zz.1) (0,[],0,false) ?hI5 (Fgt.head (Nat.zero_le 1) [true,true,true,false,false,false,false,false,false,true,false,true,true,true,true,true] ?hT5 ?hH5) ?hB5
 case hT5=>first | (simp (disch:=omega) only [hds,liveT,cleanAV,cleanCell,clean1,cleanBlk,reduceIte,iS,iA,iN,encB_nil];done) | rfl
 case hH5=>first | (simp (disch:=omega) only [hds,liveT,cleanAV,cleanCell,clean1,cleanBlk,reduceIte,iS,iA,iN,encB_nil];done) | rfl
 ·dsimp only;exact ⟨Nat.zero_le _,rfl,rfl⟩
 rintro ⟨i,l,u,nn⟩ ⟨hi,hl,hnn⟩
 dsimp only at hi hl hnn
 by_cases hie:i = (osl a).length
 case neg =>
  have hlt:i < (osl a).length:=by omega
  have hrl:=h.rl i hlt
  have hg:=gA_in hlt (k:=k) (by omega)
  have hsn:∀ z:Int,encB fI l ++ [[Cell.c (.val (.int .i64 z))]] = encB fI (l ++ [z]):=fun z=>by rw [<- encB_append];rfl
  have hll:l.length = i:=by rw [hl,colI_len]
  repeat (first | (with_reducible first | refine Way.imp ?_ | refine blk_o rfl ?_) | ((with_reducible refine WayR.imp (fun K hK=>?_));simp (disch:=first | omega | (simp only [dls];omega)) only [std,reduceIte,reduceCtorEq,iT,nA,nS,nM,iA,iS,iM,iN,fU,fIs,fI,<- hg,hsn];subst hK))
  refine ⟨(i + 1,l ++ [gA a i k],u + 1,true),?hI6,?hM6,Fgt.head (Nat.zero_le 1) [true,true,true,false,false,false,false,false,false,true,false,true,true,true,true,true] ?hT6 ?hH6⟩
  case hT6=>first | (simp (disch:=omega) only [hds,liveT,cleanAV,cleanCell,clean1,cleanBlk,reduceIte,iS,iA,iN,List.isEmpty_cons,Bool.or_true,Bool.not_false];done) | rfl
  case hH6=>first | (simp (disch:=omega) only [hds,liveT,cleanAV,cleanCell,clean1,cleanBlk,reduceIte,iS,iA,iN,List.isEmpty_cons,Bool.or_true,Bool.not_false];done) | rfl
  ·dsimp only;exact ⟨hlt,by rw [colI_succ,hl],by cases l <;> rfl⟩
  ·dsimp only;omega
 have hones:=ones_C (rowO l) b (by rw [osl_rowO,hl,colI_len];omega) (by rw [osl_rowO,hl,colI_len];omega) (fun j=>by rw [hl,hie,colI_at];exact h.sa j k) h.sb
 rw [osl_rowO,hl,hie,colI_len,colI_at,<- hie,<- hl] at hones
 iterate 11 (first | (with_reducible first | refine Way.imp ?_ | refine blk_o rfl ?_) | ((with_reducible refine WayR.imp (fun K hK=>?_));simp (disch:=first | omega | (simp only [dls];omega)) only [std,reduceIte,reduceCtorEq,iT,nA,nS,nM,iA,iS,iM,iN,fU];subst hK))
 refine awp_join2 (S:=⟨(aIM a :: aIs b :: aIs c :: .junk :: .junk :: .junk :: .junk :: .junk :: .junk :: aB (inI a b c k 0).f :: .junk :: aI (inI a b c k 0).n :: aI (inI a b c k 0).d :: aI k :: .junk :: .junk :: .junk :: .junk :: .junk :: .junk :: .junk :: .junk :: .junk :: .junk :: .junk :: .junk :: .junk :: .junk :: .junk :: .junk :: .junk :: .junk :: .junk :: .junk :: .junk :: .junk :: .junk :: .junk :: .junk :: .junk :: .junk :: .junk :: .junk :: .junk :: .junk :: .junk :: .junk :: .junk :: .junk :: .junk :: .junk :: .junk :: .junk :: .junk :: .junk :: .junk :: .junk :: .junk :: .junk :: .junk :: .junk :: .junk :: .junk :: .junk :: .junk :: .junk :: .junk :: .junk :: .junk :: .junk :: .junk :: .junk :: .junk :: .junk :: .junk :: .junk :: .junk :: .junk :: .junk :: .junk :: .junk :: .junk :: .junk :: .junk :: .junk :: .junk :: .junk :: .junk :: .junk :: .junk :: .junk :: .junk :: .junk :: .junk :: .junk :: .junk :: .junk :: .junk :: .junk :: .junk :: .junk :: .junk :: .junk :: .junk :: .junk :: .junk :: .junk :: .junk :: .junk :: .junk :: .junk :: .junk :: .junk :: .junk :: .junk :: .junk :: .junk :: .junk :: .junk :: .junk :: .junk :: .junk :: .junk :: .junk :: .junk :: .junk :: .junk :: .junk :: .junk :: .junk :: .junk :: .junk :: .junk :: .junk :: .junk :: .junk :: .junk :: .junk :: .junk :: .junk :: .junk :: .junk :: .junk :: .junk :: .junk :: .junk :: .junk :: .junk :: .junk :: .junk :: .junk :: .junk :: .junk :: .junk :: .junk :: .junk :: .junk :: .junk :: .junk :: .junk :: .junk :: .junk :: .junk :: .junk :: .junk :: .junk :: .junk :: .junk :: .junk :: .junk :: .junk :: .junk :: .junk :: .junk :: .junk :: .junk :: .junk :: .junk :: .junk :: .junk :: .junk :: .junk :: .junk :: .junk :: .junk :: .junk :: .junk :: .junk :: .junk :: .junk :: .junk :: .junk :: .junk :: .junk :: .junk :: .junk :: .junk :: .junk :: .junk :: .junk :: .junk :: .junk :: .junk :: .junk :: .junk :: .junk :: .junk :: .junk :: .junk :: .junk :: .junk :: .junk :: .junk :: .junk :: .junk :: .junk :: .junk :: .junk :: .junk :: .junk :: .junk :: .junk :: .junk :: .junk :: []),[]⟩) ?_ ?_
 ·have hin0:inI a b c k 0 = stepB (bsI a b c k) (cand1 (gA a) (iAt b) (iAt c) (osl a).length k):=rfl
  cases ho:(onesF (fun i=>gA a i k) (iAt b) i).2.2 with
  | false =>
   have hc1:cand1 (gA a) (iAt b) (iAt c) (osl a).length k = none:=by unfold cand1;rw [<- hie,ho];rfl
   rw [hc1] at hin0
   have hin:inI a b c k 0 = bsI a b c k:=hin0
   rw [hin]
   rw [ho] at hones
   repeat (first | (with_reducible first | refine Way.imp ?_ | refine blk_o rfl ?_) | ((with_reducible refine WayR.imp (fun K hK=>?_));simp (disch:=first | omega | (simp only [dls];omega)) only [std,reduceIte,reduceCtorEq,iT,nA,nS,nM,iA,iS,iM,iN,fU];subst hK) | (apply call_flat (hones) rfl;(case hcl=>(simp only [evs,St.ev,constAV,evl];(repeat (first | exact closeAVs_nil | (apply closeAVs_cons;(first | (refine close_own3 rfl (by decide)) | (refine close_ownO rfl (by decide) ?_;assumption) | rfl))));done));(case hf=>rfl)))
   refine ⟨rfl,Fgt.head (show _ <= 0 from Nat.le_of_ble_eq_true rfl) [true,true,true,false,false,false,false,false,false,true,false,true,true,true] ?hT7 ?hH7⟩
   case hT7=>first | (simp (disch:=omega) only [hds,liveT,cleanAV,cleanCell,clean1,cleanBlk,reduceIte,iS,iA,iN];done) | rfl
   case hH7=>first | (simp (disch:=omega) only [hds,liveT,cleanAV,cleanCell,clean1,cleanBlk,reduceIte,iS,iA,iN];done) | rfl
  | true =>
   have hc1:cand1 (gA a) (iAt b) (iAt c) (osl a).length k = some ((onesF (fun i=>gA a i k) (iAt b) i).1 * iAt c k,(onesF (fun i=>gA a i k) (iAt b) i).2.1):=by unfold cand1;rw [<- hie,ho];rfl
   have hqb:=cand1_bnd hsm hkl hc1
   rw [hc1] at hin0
   rw [ho] at hones
   have hb1:=bq_mul hqb hbn
   have hb2:=bq_mul hbn hqb
   have hls:=less_C _ _ _ _ hb1 hb2
   have hst:inI a b c k 0 = if !(bsI a b c k).f || decide ((onesF (fun i=>gA a i k) (iAt b) i).1 * iAt c k * (bsI a b c k).d < (bsI a b c k).n * (onesF (fun i=>gA a i k) (iAt b) i).2.1) then ⟨(onesF (fun i=>gA a i k) (iAt b) i).1 * iAt c k,(onesF (fun i=>gA a i k) (iAt b) i).2.1,true⟩ else bsI a b c k:=hin0
   rw [hst]
   have hq1:=hqb.1
   clear hst hin0 hc1 hqb hb1 hb2
   dsimp only at hq1 hls
   generalize (onesF (fun i=>gA a i k) (iAt b) i).1 = o1 at *
   generalize (onesF (fun i=>gA a i k) (iAt b) i).2.1 = o2 at *
   change BndQ ((bsI a b c k).n,(bsI a b c k).d) at hbn
   generalize bsI a b c k = s at *
   obtain ⟨sn,sd,sf⟩:=s
   dsimp only at *
   cases sf with
   | false =>
    rw [if_pos (show (!false || decide (o1 * iAt c k * sd < sn * o2)) = true from rfl)]
    repeat (first | (with_reducible first | refine Way.imp ?_ | refine blk_o rfl ?_) | ((with_reducible refine WayR.imp (fun K hK=>?_));simp (disch:=first | omega | (simp only [dls];omega)) only [std,reduceIte,reduceCtorEq,iT,nA,nS,nM,iA,iS,iM,iN,fU,fI,<- hck];subst hK) | (apply call_flat (hones) rfl;(case hcl=>(simp only [evs,St.ev,constAV,evl];(repeat (first | exact closeAVs_nil | (apply closeAVs_cons;(first | (refine close_own3 rfl (by decide)) | (refine close_ownO rfl (by decide) ?_;assumption) | rfl))));done));(case hf=>rfl)))
    refine ⟨rfl,Fgt.head (show _ <= 0 from Nat.le_of_ble_eq_true rfl) [true,true,true,false,false,false,false,false,false,true,false,true,true,true] ?hT8 ?hH8⟩
    case hT8=>first | (simp (disch:=omega) only [hds,liveT,cleanAV,cleanCell,clean1,cleanBlk,reduceIte,iS,iA,iN];done) | rfl
    case hH8=>first | (simp (disch:=omega) only [hds,liveT,cleanAV,cleanCell,clean1,cleanBlk,reduceIte,iS,iA,iN];done) | rfl
   | true =>
    by_cases hd:o1 * iAt c k * sd < sn * o2
    ·rw [decide_eq_true hd] at hls
     rw [if_pos (show (!true || decide (o1 * iAt c k * sd < sn * o2)) = true by rw [decide_eq_true hd];rfl)]
     repeat (first | (with_reducible first | refine Way.imp ?_ | refine blk_o rfl ?_) | ((with_reducible refine WayR.imp (fun K hK=>?_));simp (disch:=first | omega | (simp only [dls];omega)) only [std,reduceIte,reduceCtorEq,iT,nA,nS,nM,iA,iS,iM,iN,fU,fI,<- hck];subst hK) | (apply call_flat (hones) rfl;(case hcl=>(simp only [evs,St.ev,constAV,evl];(repeat (first | exact closeAVs_nil | (apply closeAVs_cons;(first | (refine close_own3 rfl (by decide)) | (refine close_ownO rfl (by decide) ?_;assumption) | rfl))));done));(case hf=>rfl)) | (apply call_any_g (hls) rfl;(case hg=>simp (disch:=first | omega | (simp only [dls];omega)) only [std,reduceIte,reduceCtorEq,iT,nA,nS,nM,iA,iS,iM,iN,fU,fI,<- hck]);(case hcl=>(simp only [evs,St.ev,constAV,evl];(repeat (first | exact closeAVs_nil | (apply closeAVs_cons;(first | (refine close_own3 rfl (by decide)) | (refine close_ownO rfl (by decide) ?_;assumption) | rfl))));done));(case hu=>rfl)))
     refine ⟨rfl,Fgt.head (show _ <= 0 from Nat.le_of_ble_eq_true rfl) [true,true,true,false,false,false,false,false,false,true,false,true,true,true] ?hT9 ?hH9⟩
     case hT9=>first | (simp (disch:=omega) only [hds,liveT,cleanAV,cleanCell,clean1,cleanBlk,reduceIte,iS,iA,iN];done) | rfl
     case hH9=>first | (simp (disch:=omega) only [hds,liveT,cleanAV,cleanCell,clean1,cleanBlk,reduceIte,iS,iA,iN];done) | rfl
    ·rw [decide_eq_false hd] at hls
     rw [if_neg (show ¬ (!true || decide (o1 * iAt c k * sd < sn * o2)) = true by rw [decide_eq_false hd];simp)]
     repeat (first | (with_reducible first | refine Way.imp ?_ | refine blk_o rfl ?_) | ((with_reducible refine WayR.imp (fun K hK=>?_));simp (disch:=first | omega | (simp only [dls];omega)) only [std,reduceIte,reduceCtorEq,iT,nA,nS,nM,iA,iS,iM,iN,fU,fI,<- hck];subst hK) | (apply call_flat (hones) rfl;(case hcl=>(simp only [evs,St.ev,constAV,evl];(repeat (first | exact closeAVs_nil | (apply closeAVs_cons;(first | (refine close_own3 rfl (by decide)) | (refine close_ownO rfl (by decide) ?_;assumption) | rfl))));done));(case hf=>rfl)) | (apply call_any_g (hls) rfl;(case hg=>simp (disch:=first | omega | (simp only [dls];omega)) only [std,reduceIte,reduceCtorEq,iT,nA,nS,nM,iA,iS,iM,iN,fU,fI,<- hck]);(case hcl=>(simp only [evs,St.ev,constAV,evl];(repeat (first | exact closeAVs_nil | (apply closeAVs_cons;(first | (refine close_own3 rfl (by decide)) | (refine close_ownO rfl (by decide) ?_;assumption) | rfl))));done));(case hu=>rfl)))
     refine ⟨rfl,Fgt.head (show _ <= 0 from Nat.le_of_ble_eq_true rfl) [true,true,true,false,false,false,false,false,false,true,false,true,true,true] ?hT10 ?hH10⟩
     case hT10=>first | (simp (disch:=omega) only [hds,liveT,cleanAV,cleanCell,clean1,cleanBlk,reduceIte,iS,iA,iN];done) | rfl
     case hH10=>first | (simp (disch:=omega) only [hds,liveT,cleanAV,cleanCell,clean1,cleanBlk,reduceIte,iS,iA,iN];done) | rfl
 ·have hin0b:BndQ ((inI a b c k 0).n,(inI a b c k 0).d):=step_bnd hbn (fun q hq=>cand1_bnd hsm hkl hq)
  have hbs:bsI a b c (k + 1) = inI a b c k (if (osl a).length = 2 then k else 0):=best_succ k
  repeat (first | (with_reducible first | refine Way.imp ?_ | refine blk_o rfl ?_) | ((with_reducible refine WayR.imp (fun K hK=>?_));simp (disch:=first | omega | (simp only [dls];omega)) only [std,reduceIte,reduceCtorEq,iT,nA,nS,nM,iA,iS,iM,iN,fU];subst hK))
  refine awp_loop (fun (zz:Nat)=>⟨(aIM a :: aIs b :: aIs c :: .junk :: .junk :: .junk :: .junk :: .junk :: .junk :: aB (inI a b c k zz).f :: .junk :: aI (inI a b c k zz).n :: aI (inI a b c k zz).d :: aI k :: .junk :: .junk :: .junk :: .junk :: .junk :: aI zz :: .junk :: .junk :: .junk :: .junk :: .junk :: .junk :: .junk :: .junk :: .junk :: .junk :: .junk :: .junk :: .junk :: .junk :: .junk :: .junk :: .junk :: .junk :: .junk :: .junk :: .junk :: .junk :: .junk :: .junk :: .junk :: .junk :: .junk :: .junk :: .junk :: .junk :: .junk :: .junk :: .junk :: .junk :: .junk :: .junk :: .junk :: .junk :: .junk :: .junk :: .junk :: .junk :: .junk :: .junk :: .junk :: .junk :: .junk :: .junk :: .junk :: .junk :: .junk :: .junk :: .junk :: .junk :: .junk :: .junk :: .junk :: .junk :: .junk :: .junk :: .junk :: .junk :: .junk :: .junk :: .junk :: .junk :: .junk :: .junk :: .junk :: .junk :: .junk :: .junk :: .junk :: .junk :: .junk :: .junk :: .junk :: .junk :: .junk :: .junk :: .junk :: .junk :: .junk :: .junk :: .junk :: .junk :: .junk :: .junk :: .junk :: .junk :: .junk :: .junk :: .junk :: .junk :: .junk :: .junk :: .junk :: .junk :: .junk :: .junk :: .junk :: .junk :: .junk :: .junk :: .junk :: .junk :: .junk :: .junk :: .junk :: .junk :: .junk :: .junk :: .junk :: .junk :: .junk :: .junk :: .junk :: .junk :: .junk :: .junk :: .junk :: .junk :: .junk :: .junk :: .junk :: .junk :: .junk :: .junk :: .junk :: .junk :: .junk :: .junk :: .junk :: .junk :: .junk :: .junk :: .junk :: .junk :: .junk :: .junk :: .junk :: .junk :: .junk :: .junk :: .junk :: .junk :: .junk :: .junk :: .junk :: .junk :: .junk :: .junk :: .junk :: .junk :: .junk :: .junk :: .junk :: .junk :: .junk :: .junk :: .junk :: .junk :: .junk :: .junk :: .junk :: .junk :: .junk :: .junk :: .junk :: .junk :: .junk :: .junk :: .junk :: .junk :: .junk :: .junk :: .junk :: .junk :: .junk :: .junk :: .junk :: .junk :: .junk :: .junk :: .junk :: .junk :: .junk :: .junk :: .junk :: .junk :: .junk :: .junk :: .junk :: .junk :: .junk :: .junk :: .junk :: .junk :: .junk :: .junk :: .junk :: .junk :: .junk :: .junk :: []),[]⟩) (fun (zz:Nat)=>zz <= (if (osl a).length = 2 then k else 0)) (fun (zz:Nat)=>k - zz) (0) ?hI11 (Fgt.head (Nat.zero_le 0) [true,true,true,false,false,false,false,false,false,true,false,true,true,true,false,false,false,false,false,true] ?hT11 ?hH11) ?hB11
  case hT11=>first | (simp (disch:=omega) only [hds,liveT,cleanAV,cleanCell,clean1,cleanBlk,reduceIte,iS,iA,iN];done) | rfl
  case hH11=>first | (simp (disch:=omega) only [hds,liveT,cleanAV,cleanCell,clean1,cleanBlk,reduceIte,iS,iA,iN];done) | rfl
  ·exact Nat.zero_le _
  rintro j hj
  by_cases hm2:(osl a).length = 2
  case neg =>
   rw [if_neg hm2] at hj hbs
   have hj0:j = 0:=by omega
   subst hj0
   by_cases hk0:0 < k
   ·repeat (first | (with_reducible first | refine Way.imp ?_ | refine blk_o rfl ?_) | ((with_reducible refine WayR.imp (fun K hK=>?_));simp (disch:=first | omega | (simp only [dls];omega)) only [std,reduceIte,reduceCtorEq,iT,nA,nS,nM,iA,iS,iM,iN,fU];subst hK))
    refine ⟨(k + 1),?hI12,?hM12,Fgt.head (Nat.zero_le 0) [true,true,true,false,false,false,false,false,false,true,false,true,true,true] ?hT12 ?hH12⟩
    case hT12=>first | (simp (disch:=omega) only [hds,liveT,cleanAV,cleanCell,clean1,cleanBlk,reduceIte,iS,iA,iN,hbs];done) | rfl
    case hH12=>first | (simp (disch:=omega) only [hds,liveT,cleanAV,cleanCell,clean1,cleanBlk,reduceIte,iS,iA,iN,hbs];done) | rfl
    ·exact hkl
    ·show (osl c).length - (k + 1) < (osl c).length - k;omega
   ·repeat (first | (with_reducible first | refine Way.imp ?_ | refine blk_o rfl ?_) | ((with_reducible refine WayR.imp (fun K hK=>?_));simp (disch:=first | omega | (simp only [dls];omega)) only [std,reduceIte,reduceCtorEq,iT,nA,nS,nM,iA,iS,iM,iN,fU];subst hK))
    refine ⟨(k + 1),?hI13,?hM13,Fgt.head (Nat.zero_le 0) [true,true,true,false,false,false,false,false,false,true,false,true,true,true] ?hT13 ?hH13⟩
    case hT13=>first | (simp (disch:=omega) only [hds,liveT,cleanAV,cleanCell,clean1,cleanBlk,reduceIte,iS,iA,iN,hbs];done) | rfl
    case hH13=>first | (simp (disch:=omega) only [hds,liveT,cleanAV,cleanCell,clean1,cleanBlk,reduceIte,iS,iA,iN,hbs];done) | rfl
    ·exact hkl
    ·show (osl c).length - (k + 1) < (osl c).length - k;omega
  rw [if_pos hm2] at hj hbs
  by_cases hjk:j = k
  ·subst hjk
   repeat (first | (with_reducible first | refine Way.imp ?_ | refine blk_o rfl ?_) | ((with_reducible refine WayR.imp (fun K hK=>?_));simp (disch:=first | omega | (simp only [dls];omega)) only [std,reduceIte,reduceCtorEq,iT,nA,nS,nM,iA,iS,iM,iN,fU];subst hK))
   refine ⟨(j + 1),?hI14,?hM14,Fgt.head (Nat.zero_le 0) [true,true,true,false,false,false,false,false,false,true,false,true,true,true] ?hT14 ?hH14⟩
   case hT14=>first | (simp (disch:=omega) only [hds,liveT,cleanAV,cleanCell,clean1,cleanBlk,reduceIte,iS,iA,iN,hbs];done) | rfl
   case hH14=>first | (simp (disch:=omega) only [hds,liveT,cleanAV,cleanCell,clean1,cleanBlk,reduceIte,iS,iA,iN,hbs];done) | rfl
   ·exact hkl
   ·show (osl c).length - (j + 1) < (osl c).length - j;omega
  have hjl:j < k:=by omega
  have hjc:j < (osl c).length:=by omega
  have hijb:=inn_bnd hsm hm2 hkl hin0b j hj
  have htb:=tri_bnd hsm hm2 hjc hkl
  have hrl0:=h.rl 0 (by omega)
  have hrl1:=h.rl 1 (by omega)
  have g0j:=gA_in (a:=a) (i:=0) (k:=j) (by omega) (by omega)
  have g0k:=gA_in (a:=a) (i:=0) (k:=k) (by omega) (by omega)
  have g1j:=gA_in (a:=a) (i:=1) (k:=j) (by omega) (by omega)
  have g1k:=gA_in (a:=a) (i:=1) (k:=k) (by omega) (by omega)
  have hb0:=iAt_in (l:=b) (k:=0) (by omega)
  have hb1:=iAt_in (l:=b) (k:=1) (by omega)
  have hcj:=iAt_in hjc
  have m1:=mul20 (h.sa 0 j) (h.sa 1 k)
  have m2:=mul20 (h.sa 0 k) (h.sa 1 j)
  have m3:=mul20 (h.sb 0) (h.sa 1 k)
  have m4:=mul20 (h.sa 0 k) (h.sb 1)
  have m5:=mul20 (h.sa 0 j) (h.sb 1)
  have m6:=mul20 (h.sb 0) (h.sa 1 j)
  iterate 10 (first | (with_reducible first | refine Way.imp ?_ | refine blk_o rfl ?_) | ((with_reducible refine WayR.imp (fun K hK=>?_));simp (disch:=first | omega | (simp only [dls];omega)) only [std,reduceIte,reduceCtorEq,iT,nA,nS,nM,iA,iS,iM,iN,fU];subst hK))
  refine awp_join4 (S:=⟨(aIM a :: aIs b :: aIs c :: .junk :: .junk :: .junk :: .junk :: .junk :: .junk :: aB (inI a b c k j).f :: .junk :: aI (inI a b c k j).n :: aI (inI a b c k j).d :: aI k :: .junk :: .junk :: .junk :: .junk :: .junk :: aI j :: aI (triF (gA a) (iAt b) j k).1 :: aI (triF (gA a) (iAt b) j k).2.1 :: aI (triF (gA a) (iAt b) j k).2.2 :: .junk :: .junk :: .junk :: .junk :: .junk :: .junk :: .junk :: .junk :: .junk :: .junk :: .junk :: .junk :: .junk :: .junk :: .junk :: .junk :: .junk :: .junk :: .junk :: .junk :: .junk :: .junk :: .junk :: .junk :: .junk :: .junk :: .junk :: .junk :: .junk :: .junk :: .junk :: .junk :: .junk :: .junk :: .junk :: .junk :: .junk :: .junk :: .junk :: .junk :: .junk :: .junk :: .junk :: .junk :: .junk :: .junk :: .junk :: .junk :: .junk :: .junk :: .junk :: .junk :: .junk :: .junk :: .junk :: .junk :: .junk :: .junk :: .junk :: .junk :: .junk :: .junk :: .junk :: .junk :: .junk :: .junk :: .junk :: .junk :: .junk :: .junk :: .junk :: .junk :: .junk :: .junk :: .junk :: .junk :: .junk :: .junk :: .junk :: .junk :: .junk :: .junk :: .junk :: .junk :: .junk :: .junk :: .junk :: .junk :: .junk :: .junk :: .junk :: .junk :: .junk :: .junk :: .junk :: .junk :: .junk :: .junk :: .junk :: .junk :: .junk :: .junk :: .junk :: .junk :: .junk :: .junk :: .junk :: .junk :: .junk :: .junk :: .junk :: .junk :: .junk :: .junk :: .junk :: .junk :: .junk :: .junk :: .junk :: .junk :: .junk :: .junk :: .junk :: .junk :: .junk :: .junk :: .junk :: .junk :: .junk :: .junk :: .junk :: .junk :: .junk :: .junk :: .junk :: .junk :: .junk :: .junk :: .junk :: .junk :: .junk :: .junk :: .junk :: .junk :: .junk :: .junk :: .junk :: .junk :: .junk :: .junk :: .junk :: .junk :: .junk :: .junk :: .junk :: .junk :: .junk :: .junk :: .junk :: .junk :: .junk :: .junk :: .junk :: .junk :: .junk :: .junk :: .junk :: .junk :: .junk :: .junk :: .junk :: .junk :: .junk :: .junk :: .junk :: .junk :: .junk :: .junk :: .junk :: .junk :: .junk :: .junk :: .junk :: .junk :: .junk :: .junk :: .junk :: .junk :: .junk :: .junk :: .junk :: .junk :: .junk :: .junk :: .junk :: .junk :: .junk :: .junk :: .junk :: .junk :: .junk :: []),[]⟩) ?_ ?_
  ·generalize inI a b c k j = s at *
   by_cases hdt:gA a 0 j * gA a 1 k - gA a 0 k * gA a 1 j < 0
   ·have ht:triF (gA a) (iAt b) j k = (0 - (gA a 0 j * gA a 1 k - gA a 0 k * gA a 1 j),0 - (iAt b 0 * gA a 1 k - gA a 0 k * iAt b 1),0 - (gA a 0 j * iAt b 1 - iAt b 0 * gA a 1 j)):=if_pos hdt
    rw [ht]
    clear ht htb
    repeat (first | (with_reducible first | refine Way.imp ?_ | refine blk_o rfl ?_) | ((with_reducible refine WayR.imp (fun K hK=>?_));simp (disch:=first | omega | (simp only [dls];omega)) only [std,reduceIte,reduceCtorEq,iT,nA,nS,nM,iA,iS,iM,iN,fU,fIs,fI,<- g0j,<- g0k,<- g1j,<- g1k,<- hb0,<- hb1];subst hK))
    refine ⟨rfl,Fgt.head (show _ <= 0 from Nat.le_of_ble_eq_true rfl) [true,true,true,false,false,false,false,false,false,true,false,true,true,true,false,false,false,false,false,true,true,true,true] ?hT15 ?hH15⟩
    case hT15=>first | (simp (disch:=omega) only [hds,liveT,cleanAV,cleanCell,clean1,cleanBlk,reduceIte,iS,iA,iN];done) | rfl
    case hH15=>first | (simp (disch:=omega) only [hds,liveT,cleanAV,cleanCell,clean1,cleanBlk,reduceIte,iS,iA,iN];done) | rfl
   ·have ht:triF (gA a) (iAt b) j k = (gA a 0 j * gA a 1 k - gA a 0 k * gA a 1 j,iAt b 0 * gA a 1 k - gA a 0 k * iAt b 1,gA a 0 j * iAt b 1 - iAt b 0 * gA a 1 j):=if_neg hdt
    rw [ht]
    clear ht htb
    repeat (first | (with_reducible first | refine Way.imp ?_ | refine blk_o rfl ?_) | ((with_reducible refine WayR.imp (fun K hK=>?_));simp (disch:=first | omega | (simp only [dls];omega)) only [std,reduceIte,reduceCtorEq,iT,nA,nS,nM,iA,iS,iM,iN,fU,fIs,fI,<- g0j,<- g0k,<- g1j,<- g1k,<- hb0,<- hb1];subst hK))
    refine ⟨rfl,Fgt.head (show _ <= 0 from Nat.le_of_ble_eq_true rfl) [true,true,true,false,false,false,false,false,false,true,false,true,true,true,false,false,false,false,false,true,true,true,true] ?hT16 ?hH16⟩
    case hT16=>first | (simp (disch:=omega) only [hds,liveT,cleanAV,cleanCell,clean1,cleanBlk,reduceIte,iS,iA,iN];done) | rfl
    case hH16=>first | (simp (disch:=omega) only [hds,liveT,cleanAV,cleanCell,clean1,cleanBlk,reduceIte,iS,iA,iN];done) | rfl
  ·have hst:inI a b c k (j + 1) = stepB (inI a b c k j) (cand2 (gA a) (iAt b) (iAt c) j k):=inn_succ k j
   have hc2d:cand2 (gA a) (iAt b) (iAt c) j k = if 0 < (triF (gA a) (iAt b) j k).1 /\ 0 <= (triF (gA a) (iAt b) j k).2.1 /\ 0 <= (triF (gA a) (iAt b) j k).2.2 then some ((triF (gA a) (iAt b) j k).2.1 * iAt c j + (triF (gA a) (iAt b) j k).2.2 * iAt c k,(triF (gA a) (iAt b) j k).1) else none:=rfl
   have m7:=mul_bnd htb.2.1 (h.sc (by omega) j)
   have m8:=mul_bnd htb.2.2 (h.sc (by omega) k)
   have hqb:∀ q,cand2 (gA a) (iAt b) (iAt c) j k = some q -> BndQ q:=fun q hq=>cand2_bnd hsm hm2 hjc hkl hq
   generalize cand2 (gA a) (iAt b) (iAt c) j k = cc at *
   generalize triF (gA a) (iAt b) j k = tr at *
   obtain ⟨d,x,y⟩:=tr
   have hijb':BndQ ((inI a b c k j).n,(inI a b c k j).d):=hijb
   clear hijb
   generalize inI a b c k j = s at *
   clear m1 m2 m3 m4 m5 m6 g0j g0k g1j g1k hb0 hb1
   obtain ⟨sn,sd,sf⟩:=s
   dsimp only at *
   by_cases hcc:0 < d /\ 0 <= x /\ 0 <= y
   case neg =>
    rw [if_neg hcc] at hc2d
    rw [hc2d] at hst
    change inI a b c k (j + 1) = ⟨sn,sd,sf⟩ at hst
    by_cases q1:0 < d
    ·by_cases q2:0 <= x
     ·have q3:¬ 0 <= y:=fun q3=>hcc ⟨q1,q2,q3⟩
      repeat (first | (with_reducible first | refine Way.imp ?_ | refine blk_o rfl ?_) | ((with_reducible refine WayR.imp (fun K hK=>?_));simp (disch:=first | omega | (simp only [dls];omega)) only [std,reduceIte,reduceCtorEq,iT,nA,nS,nM,iA,iS,iM,iN,fU];subst hK))
      refine ⟨(j + 1),?hI17,?hM17,Fgt.head (Nat.zero_le 0) [true,true,true,false,false,false,false,false,false,true,false,true,true,true,false,false,false,false,false,true] ?hT17 ?hH17⟩
      case hT17=>first | (simp (disch:=omega) only [hds,liveT,cleanAV,cleanCell,clean1,cleanBlk,reduceIte,iS,iA,iN,hst];done) | rfl
      case hH17=>first | (simp (disch:=omega) only [hds,liveT,cleanAV,cleanCell,clean1,cleanBlk,reduceIte,iS,iA,iN,hst];done) | rfl
      ·rw [if_pos hm2];exact hjl
      ·show k - (j + 1) < k - j;omega
     ·repeat (first | (with_reducible first | refine Way.imp ?_ | refine blk_o rfl ?_) | ((with_reducible refine WayR.imp (fun K hK=>?_));simp (disch:=first | omega | (simp only [dls];omega)) only [std,reduceIte,reduceCtorEq,iT,nA,nS,nM,iA,iS,iM,iN,fU];subst hK))
      refine ⟨(j + 1),?hI18,?hM18,Fgt.head (Nat.zero_le 0) [true,true,true,false,false,false,false,false,false,true,false,true,true,true,false,false,false,false,false,true] ?hT18 ?hH18⟩
      case hT18=>first | (simp (disch:=omega) only [hds,liveT,cleanAV,cleanCell,clean1,cleanBlk,reduceIte,iS,iA,iN,hst];done) | rfl
      case hH18=>first | (simp (disch:=omega) only [hds,liveT,cleanAV,cleanCell,clean1,cleanBlk,reduceIte,iS,iA,iN,hst];done) | rfl
      ·rw [if_pos hm2];exact hjl
      ·show k - (j + 1) < k - j;omega
    ·repeat (first | (with_reducible first | refine Way.imp ?_ | refine blk_o rfl ?_) | ((with_reducible refine WayR.imp (fun K hK=>?_));simp (disch:=first | omega | (simp only [dls];omega)) only [std,reduceIte,reduceCtorEq,iT,nA,nS,nM,iA,iS,iM,iN,fU];subst hK))
     refine ⟨(j + 1),?hI19,?hM19,Fgt.head (Nat.zero_le 0) [true,true,true,false,false,false,false,false,false,true,false,true,true,true,false,false,false,false,false,true] ?hT19 ?hH19⟩
     case hT19=>first | (simp (disch:=omega) only [hds,liveT,cleanAV,cleanCell,clean1,cleanBlk,reduceIte,iS,iA,iN,hst];done) | rfl
     case hH19=>first | (simp (disch:=omega) only [hds,liveT,cleanAV,cleanCell,clean1,cleanBlk,reduceIte,iS,iA,iN,hst];done) | rfl
     ·rw [if_pos hm2];exact hjl
     ·show k - (j + 1) < k - j;omega
   obtain ⟨q1,q2,q3⟩:=hcc
   rw [if_pos ⟨q1,q2,q3⟩] at hc2d
   have hq:=hqb _ hc2d
   rw [hc2d] at hst
   have hb1:=bq_mul hq hijb'
   have hb2:=bq_mul hijb' hq
   have hls:=less_C _ _ _ _ hb1 hb2
   change inI a b c k (j + 1) = if !sf || decide ((x * iAt c j + y * iAt c k) * sd < sn * d) then ⟨x * iAt c j + y * iAt c k,d,true⟩ else ⟨sn,sd,sf⟩ at hst
   dsimp only at hls
   clear hb1 hb2 hq hqb hc2d
   cases sf with
   | false =>
    rw [if_pos (show (!false || decide ((x * iAt c j + y * iAt c k) * sd < sn * d)) = true from rfl)] at hst
    repeat (first | (with_reducible first | refine Way.imp ?_ | refine blk_o rfl ?_) | ((with_reducible refine WayR.imp (fun K hK=>?_));simp (disch:=first | omega | (simp only [dls];omega)) only [std,reduceIte,reduceCtorEq,iT,nA,nS,nM,iA,iS,iM,iN,fU,fI,<- hcj,<- hck];subst hK))
    refine ⟨(j + 1),?hI20,?hM20,Fgt.head (Nat.zero_le 0) [true,true,true,false,false,false,false,false,false,true,false,true,true,true,false,false,false,false,false,true] ?hT20 ?hH20⟩
    case hT20=>first | (simp (disch:=omega) only [hds,liveT,cleanAV,cleanCell,clean1,cleanBlk,reduceIte,iS,iA,iN,hst];done) | rfl
    case hH20=>first | (simp (disch:=omega) only [hds,liveT,cleanAV,cleanCell,clean1,cleanBlk,reduceIte,iS,iA,iN,hst];done) | rfl
    ·rw [if_pos hm2];exact hjl
    ·show k - (j + 1) < k - j;omega
   | true =>
    by_cases hd:(x * iAt c j + y * iAt c k) * sd < sn * d
    ·rw [decide_eq_true hd] at hls hst
     rw [if_pos (show (!true || true) = true from rfl)] at hst
     repeat (first | (with_reducible first | refine Way.imp ?_ | refine blk_o rfl ?_) | ((with_reducible refine WayR.imp (fun K hK=>?_));simp (disch:=first | omega | (simp only [dls];omega)) only [std,reduceIte,reduceCtorEq,iT,nA,nS,nM,iA,iS,iM,iN,fU,fI,<- hcj,<- hck];subst hK) | (apply call_any_g (hls) rfl;(case hg=>simp (disch:=first | omega | (simp only [dls];omega)) only [std,reduceIte,reduceCtorEq,iT,nA,nS,nM,iA,iS,iM,iN,fU,fI,<- hcj,<- hck]);(case hcl=>(simp only [evs,St.ev,constAV,evl];(repeat (first | exact closeAVs_nil | (apply closeAVs_cons;(first | (refine close_own3 rfl (by decide)) | (refine close_ownO rfl (by decide) ?_;assumption) | rfl))));done));(case hu=>rfl)))
     refine ⟨(j + 1),?hI21,?hM21,Fgt.head (Nat.zero_le 0) [true,true,true,false,false,false,false,false,false,true,false,true,true,true,false,false,false,false,false,true] ?hT21 ?hH21⟩
     case hT21=>first | (simp (disch:=omega) only [hds,liveT,cleanAV,cleanCell,clean1,cleanBlk,reduceIte,iS,iA,iN,hst];done) | rfl
     case hH21=>first | (simp (disch:=omega) only [hds,liveT,cleanAV,cleanCell,clean1,cleanBlk,reduceIte,iS,iA,iN,hst];done) | rfl
     ·rw [if_pos hm2];exact hjl
     ·show k - (j + 1) < k - j;omega
    ·rw [decide_eq_false hd] at hls hst
     rw [if_neg (show ¬ (!true || false) = true by decide)] at hst
     repeat (first | (with_reducible first | refine Way.imp ?_ | refine blk_o rfl ?_) | ((with_reducible refine WayR.imp (fun K hK=>?_));simp (disch:=first | omega | (simp only [dls];omega)) only [std,reduceIte,reduceCtorEq,iT,nA,nS,nM,iA,iS,iM,iN,fU,fI,<- hcj,<- hck];subst hK) | (apply call_any_g (hls) rfl;(case hg=>simp (disch:=first | omega | (simp only [dls];omega)) only [std,reduceIte,reduceCtorEq,iT,nA,nS,nM,iA,iS,iM,iN,fU,fI,<- hcj,<- hck]);(case hcl=>(simp only [evs,St.ev,constAV,evl];(repeat (first | exact closeAVs_nil | (apply closeAVs_cons;(first | (refine close_own3 rfl (by decide)) | (refine close_ownO rfl (by decide) ?_;assumption) | rfl))));done));(case hu=>rfl)))
     refine ⟨(j + 1),?hI22,?hM22,Fgt.head (Nat.zero_le 0) [true,true,true,false,false,false,false,false,false,true,false,true,true,true,false,false,false,false,false,true] ?hT22 ?hH22⟩
     case hT22=>first | (simp (disch:=omega) only [hds,liveT,cleanAV,cleanCell,clean1,cleanBlk,reduceIte,iS,iA,iN,hst];done) | rfl
     case hH22=>first | (simp (disch:=omega) only [hds,liveT,cleanAV,cleanCell,clean1,cleanBlk,reduceIte,iS,iA,iN,hst];done) | rfl
     ·rw [if_pos hm2];exact hjl
     ·show k - (j + 1) < k - j;omega
def rInts (s:Option (List Int)):List Rat:=(osl s).map fun n:Int=>(n:Rat)
theorem rInts_len (s:Option (List Int)):(rInts s).length = (osl s).length:=by unfold rInts;rw [List.length_map]
theorem rInts_at (s:Option (List Int)) (k:Nat):(rInts s).getD k 0 = (iAt s k:Rat):=by
 unfold rInts iAt
 by_cases h:k < (osl s).length
 ·rw [List.getD_eq_getElem?_getD,List.getElem?_map,List.getD_eq_getElem?_getD,List.getElem?_eq_getElem h];rfl
 ·rw [List.getD_eq_getElem?_getD,List.getElem?_map,List.getD_eq_getElem?_getD,List.getElem?_eq_none (by omega)];rfl
theorem fits_ints {s:Option (List Int)} (hb:∀ n ∈ osl s,-9223372036854775808 <= n /\ n <= 9223372036854775807):∀ q ∈ rInts s,FitsQ q 3:=fun q hq=>by
 unfold rInts at hq
 obtain ⟨n,hn,rfl⟩:=List.mem_map.1 hq
 exact (fits_int n (hb n hn).1 (hb n hn).2).mono (by decide)
theorem ints_O (s:Option (List Int)) (hl:(osl s).length <= 1000000) (hb:∀ n ∈ osl s,-9223372036854775808 <= n /\ n <= 9223372036854775807):PureC Try.prog 20 [aIs s] (.ret (aV (rowV (rInts s)))):=by
 cases s with
 | none =>
  refine pureC_of (rs:=[(RV.tmp 2)]) Try.func20 (fun a w=>Try.call20 a w) body20 cc20 (by kernel_rfl) ?_
  rw [Try.ntmps20]
  simp only [frs,nA,nS]
  repeat (first | (with_reducible first | refine Way.imp ?_ | refine blk_o rfl ?_) | ((with_reducible refine WayR.imp (fun K hK=>?_));simp (disch:=first | omega | (simp only [dls];omega)) only [std,reduceIte,reduceCtorEq,iT,nA,nS,nM,iA,iS,iM,iN,fU];subst hK))
  refine awp_loop (fun (zz:Unit)=>⟨(.junk :: .junk :: .junk :: .one (.c (.val (.slice none 0 0))) :: .junk :: .junk :: .junk :: aI 0 :: aI 0 :: .junk :: .junk :: .junk :: .junk :: .junk :: .junk :: .junk :: .junk :: .junk :: .junk :: []),[]⟩) (fun (zz:Unit)=>True) (fun (zz:Unit)=>0) (()) ?hI1 (Fgt.head (Nat.zero_le 0) [false,false,false,true,false,false,false,true,true] ?hT1 ?hH1) ?hB1
  case hT1=>first | (simp (disch:=omega) only [hds,liveT,cleanAV,cleanCell,clean1,cleanBlk,reduceIte,iS,iA,iN];done) | rfl
  case hH1=>first | (simp (disch:=omega) only [hds,liveT,cleanAV,cleanCell,clean1,cleanBlk,reduceIte,iS,iA,iN];done) | rfl
  ·trivial
  rintro ⟨⟩ _
  repeat (first | (with_reducible first | refine Way.imp ?_ | refine blk_o rfl ?_) | ((with_reducible refine WayR.imp (fun K hK=>?_));simp (disch:=first | omega | (simp only [dls];omega)) only [std,reduceIte,reduceCtorEq,iT,nA,nS,nM,iA,iS,iM,iN,fU];subst hK))
  exact ⟨_,rfl,rfl⟩
 | some l =>
  have e:rowO (l.map fun n:Int=>rawQ (n:Rat)) = rowV (rInts (some l)):=by
   unfold rowV rInts
   rw [List.map_map];rfl
  have:=ints_R l hl hb
  rw [e] at this
  exact this
abbrev c22:CC:=(.seq (.reg [⟨some 4,none,.new 41 [(.bool false),(.slice none 0 0),(.slice none 0 0)]⟩,⟨some 5,none,.mv (.const (.int .i64 (0)))⟩]) (.seq (.reg [⟨some 6,none,.mv (.tmp 0)⟩,⟨some 7,none,.callf (.func 15) [(.tmp 6)]⟩,⟨some 8,none,.mv (.tmp 1)⟩,⟨some 9,none,.callf (.func 15) [(.tmp 8)]⟩,⟨some 10,none,.callf (.func 58) [(.tmp 7),(.tmp 9)]⟩,⟨some 11,none,.ext (.tmp 10) 0⟩,⟨some 12,none,.ext (.tmp 10) 1⟩,⟨none,none,.store 3 (.tmp 4) (.tmp 11)⟩,⟨some 5,none,.mv (.tmp 12)⟩]) .ret))
theorem cc22:ccode Try.prog [] (Try.f22.body.getD .skip) = some c22:=by kernel_rfl
theorem body22:Try.f22.body = some (Try.f22.body.getD .skip):=rfl
theorem rof_C (n d:Int) (hn1 : -9223372036854775808 <= n) (hn2:n <= 9223372036854775807) (hd1 : -9223372036854775808 <= d) (hd2:d <= 9223372036854775807) (h0:d ≠ 0):PureC Try.prog 22 [aI n,aI d] (.ret (.tup [aR (rawQ ((n:Rat) / (d:Rat))),aI 0])):=by
 have h1:=rint_C n hn1 hn2
 have h2:=rint_C d hd1 hd2
 have h3:=rdiv_C (rawQ (n:Rat)) (rawQ (d:Rat)) (fits_rawQ ((fits_int n hn1 hn2).mono (by decide))) (fits_rawQ ((fits_int d hd1 hd2).mono (by decide))) (by rw [rawQ_val];exact_mod_cast h0)
 rw [rawQ_val,rawQ_val] at h3
 generalize rawQ ((n:Rat) / (d:Rat)) = q at *
 generalize rawQ (n:Rat) = a at *
 generalize rawQ (d:Rat) = b at *
 refine pureC_of (rs:=[(RV.cell 4 3 true),(RV.tmp 5)]) Try.func22 (fun a w=>Try.call22 a w) body22 cc22 (by kernel_rfl) ?_
 rw [Try.ntmps22]
 simp only [frs,nA,nS]
 repeat (first | (with_reducible first | refine Way.imp ?_ | refine blk_o rfl ?_) | ((with_reducible refine WayR.imp (fun K hK=>?_));simp (disch:=first | omega | (simp only [dls];omega)) only [std,reduceIte,reduceCtorEq,iT,nA,nS,nM,iA,iS,iM,iN,fU];subst hK) | refine zcA (h1) rfl rfl rfl ?_ | refine zcA (h2) rfl rfl rfl ?_ | refine zcA (h3) rfl rfl rfl ?_)
 exact ⟨_,rfl,rfl⟩
end Go.Proofs.Ytncgbjhojbnecaa
