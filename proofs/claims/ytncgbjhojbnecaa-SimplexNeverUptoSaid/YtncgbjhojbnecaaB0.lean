/- Plain: sums. -/
set_option linter.unusedSimpArgs false
set_option linter.unusedVariables false
set_option linter.unnecessarySimpa false
namespace Go.Off
def sumR:Nat -> (Nat -> Rat) -> Rat
 | 0,_=>0
 | n + 1,f=>sumR n f + f n
theorem sumR_congr {n:Nat} {f g:Nat -> Rat} (h:∀ i,i < n -> f i = g i):sumR n f = sumR n g:=by
 induction n with
 | zero=>rfl
 | succ n ih=>unfold sumR;rw [ih (fun i hi=>h i (by omega)),h n (by omega)]
theorem sumR_zero (n:Nat):sumR n (fun _=>0) = 0:=by
 induction n with
 | zero=>rfl
 | succ n ih=>unfold sumR;rw [ih];exact Rat.add_zero 0
theorem sumR_zero' {n:Nat} {f:Nat -> Rat} (h:∀ i,i < n -> f i = 0):sumR n f = 0:=by rw [sumR_congr h,sumR_zero]
theorem sumR_lin (n:Nat) (f g:Nat -> Rat) (q:Rat):sumR n (fun i=>f i + g i * q) = sumR n f + sumR n g * q:=by
 induction n with
 | zero=>simp [sumR,Rat.add_zero,Rat.zero_add,Rat.zero_mul]
 | succ n ih=>unfold sumR;rw [ih];grind
theorem sumR_mul (n:Nat) (f:Nat -> Rat) (q:Rat):sumR n (fun i=>f i * q) = sumR n f * q:=by
 induction n with
 | zero=>simp [sumR,Rat.add_zero,Rat.zero_add,Rat.zero_mul]
 | succ n ih=>unfold sumR;rw [ih];grind
theorem sumR_add (n:Nat) (f g:Nat -> Rat):sumR n (fun i=>f i + g i) = sumR n f + sumR n g:=by
 induction n with
 | zero=>simp [sumR,Rat.add_zero,Rat.zero_add,Rat.zero_mul]
 | succ n ih=>unfold sumR;rw [ih];grind
theorem sumR_single (n j:Nat) (g:Nat -> Rat):sumR n (fun i=>if j = i then g i else 0) = if j < n then g j else 0:=by
 induction n with
 | zero=>simp [sumR,Rat.add_zero,Rat.zero_add,Rat.zero_mul]
 | succ n ih =>
  unfold sumR
  rw [ih]
  dsimp only
  by_cases h:j = n
  ·subst h;rw [if_neg (by omega),if_pos rfl,if_pos (by omega)];simp [Rat.add_zero,Rat.zero_add,Rat.zero_mul]
  ·rw [if_neg h]
   by_cases h2:j < n
   ·rw [if_pos h2,if_pos (by omega)];simp [Rat.add_zero,Rat.zero_add,Rat.zero_mul]
   ·rw [if_neg h2,if_neg (by omega)];simp [Rat.add_zero,Rat.zero_add,Rat.zero_mul]
theorem sumR_comm (n m:Nat) (f:Nat -> Nat -> Rat):sumR n (fun i=>sumR m (fun j=>f i j)) = sumR m (fun j=>sumR n (fun i=>f i j)):=by
 induction n with
 | zero=>exact (sumR_zero m).symm
 | succ n ih =>
  conv=>lhs;unfold sumR
  rw [ih,<- sumR_add]
  rfl
end Go.Off
namespace Go.Off
def fstI (p:Nat -> Bool) (n:Nat):Int:=match (List.range n).find? p with | some i=>(i:Int) | none=>-1
def anyI (p:Nat -> Bool) (n:Nat):Bool:=(List.range n).any p
theorem anyI_succ (p:Nat -> Bool) (n:Nat):anyI p (n + 1) = (anyI p n || p n):=by unfold anyI;rw [List.range_succ,List.any_append];simp
theorem anyI_false {p:Nat -> Bool} {n i:Nat} (h:anyI p n = false) (hi:i < n):p i = false:=by
 have:=List.any_eq_false.1 h i (List.mem_range.2 hi)
 simpa using this
theorem anyI_of {p:Nat -> Bool} {n:Nat} (h:∀ i,i < n -> p i = false):anyI p n = false:=by
 unfold anyI
 rw [List.any_eq_false]
 intro i hi
 rw [h i (List.mem_range.1 hi)]
 simp
theorem fstI_none {p:Nat -> Bool} {n:Nat} (h:anyI p n = false):fstI p n = -1:=by
 unfold fstI
 rw [List.find?_eq_none.2 (fun i hi=>by rw [anyI_false h (List.mem_range.1 hi)];simp)]
theorem fstI_some {p:Nat -> Bool} {n k:Nat} (hk:k < n) (hz:anyI p k = false) (h:p k = true):fstI p n = k:=by
 unfold fstI
 have:(List.range n).find? p = some k:=by
  rw [List.find?_range_eq_some]
  refine ⟨h,List.mem_range.2 hk,fun i hi=>?_⟩
  rw [anyI_false hz hi]
  rfl
 rw [this]
theorem fstI_any (p:Nat -> Bool) (n:Nat):decide (fstI p n >= 0) = anyI p n:=by
 cases h:anyI p n with
 | false=>rw [fstI_none h];rfl
 | true =>
  unfold anyI at h
  rw [List.any_eq_true] at h
  obtain ⟨i,hi,hp⟩:=h
  unfold fstI
  cases hf:(List.range n).find? p with
  | none =>
   have:=List.find?_eq_none.1 hf i hi
   exact (this hp).elim
  | some k=>simp
def allK (q:Nat -> Bool) (n:Nat):Bool:=(List.range n).all q
theorem allK_succ (q:Nat -> Bool) (n:Nat):allK q (n + 1) = (allK q n && q n):=by unfold allK;rw [List.range_succ,List.all_append];simp
theorem allK_false {q:Nat -> Bool} {k n:Nat} (hk:k < n) (h:q k = false):allK q n = false:=by
 unfold allK
 rw [List.all_eq_false]
 exact ⟨k,List.mem_range.2 hk,by simp [h]⟩
theorem allK_at {q:Nat -> Bool} {k n:Nat} (h:allK q n = true) (hk:k < n):q k = true:=List.all_eq_true.1 h k (List.mem_range.2 hk)
end Go.Off
namespace Go.Off
abbrev QM:=List (List Rat)
def eQ (Q:QM) (i k:Nat):Rat:=(Q.getD i []).getD k 0
def scaleL (a:List Rat) (q:Rat):List Rat:=a.map (· * q)
def addL (a b:List Rat):List Rat:=List.zipWith (· + ·) a b
def pivFrom (Q:QM) (k:Nat):Nat -> Nat -> Nat
 | 0,i=>i
 | f + 1,i=>if eQ Q i k = 0 then pivFrom Q k f (i + 1) else i
def pivQ (Q:QM) (k a:Nat):Nat:=pivFrom Q k (Q.length - a) a
def swapL (Q:QM) (a i:Nat):QM:=(Q.set a (Q.getD i [])).set i (Q.getD a [])
def oneL (Q:QM) (a k:Nat):QM:=Q.set a (scaleL (Q.getD a []) (1 / eQ Q a k))
def elim1 (a k:Nat) (M:QM) (j:Nat):QM:=if j = a \/ eQ M j k = 0 then M else M.set j (addL (M.getD j []) (scaleL (M.getD a []) (-(eQ M j k))))
def elimTo (Q:QM) (a k j:Nat):QM:=(List.range j).foldl (elim1 a k) Q
def stepQ (S:QM × List Nat) (k:Nat):QM × List Nat :=
 if pivQ S.1 k S.2.length = S.1.length then S
 else (elimTo (oneL (swapL S.1 S.2.length (pivQ S.1 k S.2.length)) S.2.length k) S.2.length k S.1.length,S.2 ++ [k])
def redTo (Q:QM) (k:Nat):QM × List Nat:=(List.range k).foldl stepQ (Q,[])
theorem elimTo_succ (Q:QM) (a k j:Nat):elimTo Q a k (j + 1) = elim1 a k (elimTo Q a k j) j:=by
 unfold elimTo;rw [List.range_succ,List.foldl_append];rfl
theorem redTo_succ (Q:QM) (k:Nat):redTo Q (k + 1) = stepQ (redTo Q k) k:=by
 unfold redTo;rw [List.range_succ,List.foldl_append];rfl
theorem pivFrom_ge (Q:QM) (k:Nat):∀ (f i:Nat),i <= pivFrom Q k f i /\ pivFrom Q k f i <= i + f
 | 0,i=>⟨Nat.le_refl _,Nat.le_refl _⟩
 | f + 1,i=>by
  unfold pivFrom
  split
  ·have:=pivFrom_ge Q k f (i + 1);omega
  ·omega
theorem pivQ_ge {Q:QM} {k a:Nat} (h:a <= Q.length):a <= pivQ Q k a /\ pivQ Q k a <= Q.length:=by
 have:=pivFrom_ge Q k (Q.length - a) a
 unfold pivQ;omega
theorem rowSet_ne {Q:QM} {i j:Nat} {r:List Rat} (h:i ≠ j):(Q.set i r).getD j [] = Q.getD j []:=by
 rw [List.getD_eq_getElem?_getD,List.getD_eq_getElem?_getD,List.getElem?_set_ne h]
theorem rowSet_self {Q:QM} {i:Nat} {r:List Rat} (h:i < Q.length):(Q.set i r).getD i [] = r:=by
 rw [List.getD_eq_getElem?_getD,List.getElem?_set_self h];rfl
theorem pivFrom_nz (Q:QM) (k:Nat):∀ (f i:Nat),pivFrom Q k f i < i + f -> eQ Q (pivFrom Q k f i) k ≠ 0
 | 0,i,h=>by unfold pivFrom at h;omega
 | f + 1,i,h=>by
  unfold pivFrom at h ⊢
  split
  ·rename_i h0
   rw [if_pos h0] at h
   exact pivFrom_nz Q k f (i + 1) (by omega)
  ·rename_i h0;exact h0
theorem pivQ_nz {Q:QM} {k a:Nat} (ha:a <= Q.length) (h:pivQ Q k a < Q.length):eQ Q (pivQ Q k a) k ≠ 0:=by
 unfold pivQ at h ⊢;exact pivFrom_nz Q k _ a (by omega)
theorem pivFrom_z (Q:QM) (k:Nat):∀ (f i j:Nat),i <= j -> j < pivFrom Q k f i -> eQ Q j k = 0
 | 0,i,j,h,hj=>by unfold pivFrom at hj;omega
 | f + 1,i,j,h,hj=>by
  unfold pivFrom at hj
  split at hj
  ·rename_i h0
   by_cases he:j = i
   ·rw [he];exact h0
   ·exact pivFrom_z Q k f (i + 1) j (by omega) hj
  ·omega
theorem pivFrom_all (Q:QM) (k:Nat):∀ (f i:Nat),(∀ j,i <= j -> j < i + f -> eQ Q j k = 0) -> pivFrom Q k f i = i + f
 | 0,i,_=>rfl
 | f + 1,i,h=>by
  unfold pivFrom
  rw [if_pos (h i (Nat.le_refl _) (by omega)),pivFrom_all Q k f (i + 1) (fun j h1 h2=>h j (by omega) (by omega))]
  omega
def Shp (M:QM) (n m:Nat):Prop:=M.length = n /\ ∀ i,i < n -> (M.getD i []).length = m
theorem scaleL_get (a:List Rat) (q:Rat) (c:Nat):(scaleL a q).getD c 0 = a.getD c 0 * q:=by
 unfold scaleL
 rw [List.getD_eq_getElem?_getD,List.getD_eq_getElem?_getD,List.getElem?_map]
 cases a[c]? with
 | none=>simp
 | some x=>rfl
theorem scaleL_len (a:List Rat) (q:Rat):(scaleL a q).length = a.length:=by unfold scaleL;rw [List.length_map]
theorem addL_len (a b:List Rat):(addL a b).length = min a.length b.length:=by unfold addL;rw [List.length_zipWith]
theorem addL_get {a b:List Rat} (h:a.length = b.length) (c:Nat):(addL a b).getD c 0 = a.getD c 0 + b.getD c 0:=by
 unfold addL
 rw [List.getD_eq_getElem?_getD,List.getD_eq_getElem?_getD,List.getD_eq_getElem?_getD,List.getElem?_zipWith]
 by_cases hc:c < a.length
 ·rw [List.getElem?_eq_getElem hc,List.getElem?_eq_getElem (by omega)];rfl
 ·rw [List.getElem?_eq_none (by omega),List.getElem?_eq_none (by omega)];exact (Rat.add_zero 0).symm
theorem eQ_set {M:QM} {i:Nat} (r:List Rat) (hi:i < M.length) (j c:Nat):eQ (M.set i r) j c = if j = i then r.getD c 0 else eQ M j c:=by
 unfold eQ
 split
 ·rename_i h;subst h;rw [rowSet_self hi]
 ·rename_i h;rw [rowSet_ne (fun e=>h e.symm)]
theorem Shp.set {M:QM} {n m i:Nat} {r:List Rat} (h:Shp M n m) (hr:r.length = m):Shp (M.set i r) n m:=by
 refine ⟨by rw [List.length_set];exact h.1,fun j hj=>?_⟩
 by_cases he:j = i
 ·subst he;rw [rowSet_self (by rw [h.1];exact hj)];exact hr
 ·rw [rowSet_ne (fun e=>he e.symm)];exact h.2 j hj
theorem shp_swap {M:QM} {n m a i:Nat} (h:Shp M n m) (ha:a < n) (hi:i < n):Shp (swapL M a i) n m:=(h.set (h.2 i hi)).set (h.2 a ha)
theorem eQ_swap {M:QM} {n m a i:Nat} (h:Shp M n m) (ha:a < n) (hi:i < n) (j c:Nat):eQ (swapL M a i) j c = if j = i then eQ M a c else if j = a then eQ M i c else eQ M j c:=by
 unfold swapL
 rw [eQ_set _ (by rw [List.length_set,h.1];exact hi),eQ_set _ (by rw [h.1];exact ha)]
 rfl
theorem shp_one {M:QM} {n m a k:Nat} (h:Shp M n m) (ha:a < n):Shp (oneL M a k) n m:=h.set (by rw [scaleL_len];exact h.2 a ha)
theorem eQ_one {M:QM} {n m a:Nat} (h:Shp M n m) (ha:a < n) (k j c:Nat):eQ (oneL M a k) j c = if j = a then eQ M a c * (1 / eQ M a k) else eQ M j c:=by
 unfold oneL
 rw [eQ_set _ (by rw [h.1];exact ha),scaleL_get]
 rfl
theorem elim_at {M:QM} {n m a:Nat} (h:Shp M n m) (ha:a < n) (k j:Nat) (hj:j <= n) :
  Shp (elimTo M a k j) n m /\ ∀ i c,eQ (elimTo M a k j) i c = if i < j /\ i ≠ a then eQ M i c + eQ M a c * (-(eQ M i k)) else eQ M i c:=by
 induction j with
 | zero=>exact ⟨h,fun i c=>by rw [if_neg (by omega)];rfl⟩
 | succ j ih =>
  obtain ⟨h1,h2⟩:=ih (by omega)
  rw [elimTo_succ]
  have hja:∀ c,eQ (elimTo M a k j) j c = eQ M j c:=fun c=>by rw [h2,if_neg (by omega)]
  have haa:∀ c,eQ (elimTo M a k j) a c = eQ M a c:=fun c=>by rw [h2,if_neg (by omega)]
  unfold elim1
  rw [hja]
  split
  ·rename_i hc
   refine ⟨h1,fun i c=>?_⟩
   rw [h2]
   by_cases hi:i < j /\ i ≠ a
   ·rw [if_pos hi,if_pos ⟨by omega,hi.2⟩]
   ·rw [if_neg hi]
    split
    ·rename_i h3
     have hij:i = j:=by omega
     subst hij
     rcases hc with hc | hc
     ·exact (h3.2 hc).elim
     ·rw [hc,Rat.neg_zero,Rat.mul_zero,Rat.add_zero]
    ·rfl
  ·rename_i hc
   have l1:((elimTo M a k j).getD j []).length = m:=h1.2 j (by omega)
   have l2:((elimTo M a k j).getD a []).length = m:=h1.2 a ha
   refine ⟨h1.set (by rw [addL_len,scaleL_len,l1,l2,Nat.min_self]),fun i c=>?_⟩
   rw [eQ_set _ (by rw [h1.1];omega),addL_get (by rw [scaleL_len,l1,l2]),scaleL_get]
   show (if i = j then eQ (elimTo M a k j) j c + eQ (elimTo M a k j) a c * (-(eQ M j k)) else eQ (elimTo M a k j) i c) = _
   rw [hja,haa,h2]
   by_cases hi:i = j
   ·subst hi
    rw [if_pos rfl,if_pos ⟨by omega,fun e=>hc (.inl e)⟩]
   ·rw [if_neg hi]
    by_cases h3:i < j /\ i ≠ a
    ·rw [if_pos h3,if_pos ⟨by omega,h3.2⟩]
    ·rw [if_neg h3,if_neg (by omega)]
def swE (M:QM) (a i j c:Nat):Rat:=if j = i then eQ M a c else if j = a then eQ M i c else eQ M j c
theorem swE_a (M:QM) (a i c:Nat):swE M a i a c = eQ M i c:=by
 unfold swE
 split
 ·rename_i h;rw [h]
 ·rw [if_pos rfl]
theorem step_at {M:QM} {n m a i:Nat} (h:Shp M n m) (ha:a < n) (hi:i < n) (k:Nat) :
  Shp (elimTo (oneL (swapL M a i) a k) a k n) n m /\ ∀ j c,j < n -> eQ (elimTo (oneL (swapL M a i) a k) a k n) j c =
   if j = a then eQ M i c * (1 / eQ M i k) else swE M a i j c + eQ M i c * (1 / eQ M i k) * (-(swE M a i j k)):=by
 have h1:=shp_swap h ha hi
 have h2:=shp_one (k:=k) h1 ha
 obtain ⟨h3,h4⟩:=elim_at h2 ha k n (Nat.le_refl _)
 refine ⟨h3,fun j c hj=>?_⟩
 have hs:∀ j c,eQ (swapL M a i) j c = swE M a i j c:=fun j c=>eQ_swap h ha hi j c
 have ho:∀ j c,eQ (oneL (swapL M a i) a k) j c = if j = a then eQ M i c * (1 / eQ M i k) else swE M a i j c:=fun j c=>by
  rw [eQ_one h1 ha,hs,hs,hs,swE_a,swE_a]
 rw [h4,ho,ho,ho]
 by_cases hja:j = a
 ·subst hja
  rw [if_neg (by omega),if_pos rfl,if_pos rfl]
 ·rw [if_pos ⟨hj,hja⟩,if_neg hja,if_neg hja,if_neg hja,if_pos rfl]
structure RInv (n m:Nat) (M:QM) (P:List Nat) (k:Nat):Prop where
 shp:Shp M n m
 le:P.length <= n
 lt:∀ i,i < P.length -> P.getD i 0 < k
 inc:∀ i j,i < j -> j < P.length -> P.getD i 0 < P.getD j 0
 one:∀ i j,i < P.length -> j < n -> eQ M j (P.getD i 0) = if j = i then 1 else 0
 lead:∀ i c,i < P.length -> c < P.getD i 0 -> eQ M i c = 0
 nil:∀ i c,P.length <= i -> i < n -> c < k -> eQ M i c = 0
theorem getD_snoc (P:List Nat) (k i:Nat):(P ++ [k]).getD i 0 = if i < P.length then P.getD i 0 else if i = P.length then k else 0:=by
 rw [List.getD_eq_getElem?_getD,List.getD_eq_getElem?_getD]
 split
 ·rename_i h;rw [List.getElem?_append_left h]
 ·rename_i h
  rw [List.getElem?_append_right (by omega)]
  split
  ·rename_i h2;rw [h2,Nat.sub_self];rfl
  ·rename_i h2
   rw [List.getElem?_eq_none (by simp only [List.length_cons,List.length_nil];omega)]
   rfl
theorem step_cases {n m:Nat} {M:QM} {P:List Nat} {k:Nat} (h:RInv n m M P k) :
  (stepQ (M,P) k = (M,P) /\ ∀ i,P.length <= i -> i < n -> eQ M i k = 0) \/
  (∃ i,P.length <= i /\ i < n /\ eQ M i k ≠ 0 /\ stepQ (M,P) k = (elimTo (oneL (swapL M P.length i) P.length k) P.length k n,P ++ [k])):=by
 have hl:=h.shp.1
 have hg:=pivQ_ge (Q:=M) (k:=k) (a:=P.length) (by rw [hl];exact h.le)
 unfold stepQ
 dsimp only
 by_cases hp:pivQ M k P.length = M.length
 ·left
  rw [if_pos hp]
  refine ⟨rfl,fun i h1 h2=>?_⟩
  unfold pivQ at hp
  exact pivFrom_z M k (M.length - P.length) P.length i h1 (by omega)
 ·right
  rw [if_neg hp,hl]
  exact ⟨pivQ M k P.length,hg.1,by omega,pivQ_nz (by rw [hl];exact h.le) (by omega),rfl⟩
theorem step_inv {n m:Nat} {M:QM} {P:List Nat} {k:Nat} (h:RInv n m M P k) (hk:k < m):RInv n m (stepQ (M,P) k).1 (stepQ (M,P) k).2 (k + 1):=by
 rcases step_cases h with ⟨he,hz⟩ | ⟨i,hai,hin,hx,he⟩
 ·rw [he]
  refine ⟨h.shp,h.le,fun i hi=>Nat.lt_succ_of_lt (h.lt i hi),h.inc,h.one,h.lead,fun i c h1 h2 h3=>?_⟩
  by_cases hc:c = k
  ·rw [hc];exact hz i h1 h2
  ·exact h.nil i c h1 h2 (by omega)
 ·rw [he]
  dsimp only
  have ha:P.length < n:=by omega
  obtain ⟨hs,hN⟩:=step_at h.shp ha hin k
  have hmul:eQ M i k * (1 / eQ M i k) = 1:=by rw [Rat.div_def,Rat.one_mul];exact Rat.mul_inv_cancel _ hx
  have hlen:(P ++ [k]).length = P.length + 1:=by rw [List.length_append];rfl
  have hz:∀ c,c < k -> eQ M i c = 0:=fun c hc=>h.nil i c hai hin hc
  have hsw:∀ j c,c < k -> P.length <= j -> j < n -> swE M P.length i j c = 0:=fun j c hc h1 h2=>by
   unfold swE
   split
   ·exact h.nil _ c (Nat.le_refl _) ha hc
   ·split
    ·exact hz c hc
    ·exact h.nil j c h1 h2 hc
  have hsl:∀ j c,j < P.length -> swE M P.length i j c = eQ M j c:=fun j c hj=>by
   unfold swE
   rw [if_neg (by omega),if_neg (by omega)]
  refine ⟨hs,by omega,fun l hl=>?_,fun l j hlj hj=>?_,fun l j hl hj=>?_,fun l c hl hc=>?_,fun l c hl hln hc=>?_⟩
  ·rw [getD_snoc]
   split
   ·rename_i h1;exact Nat.lt_succ_of_lt (h.lt l h1)
   ·rw [if_pos (by omega)];omega
  ·rw [getD_snoc,getD_snoc,if_pos (by omega)]
   split
   ·rename_i h1;exact h.inc l j hlj h1
   ·rw [if_pos (by omega)];exact h.lt l (by omega)
  ·rw [hN _ _ hj,getD_snoc]
   by_cases hl':l < P.length
   ·rw [if_pos hl',hz _ (h.lt l hl')]
    by_cases hja:j = P.length
    ·rw [if_pos hja,if_neg (by omega)];simp [Rat.add_zero,Rat.zero_mul,Rat.mul_zero]
    ·rw [if_neg hja]
     by_cases hjl:j < P.length
     ·rw [hsl j _ hjl,h.one l j hl' hj];simp [Rat.add_zero,Rat.zero_mul,Rat.mul_zero]
     ·rw [hsw j _ (h.lt l hl') (by omega) hj,if_neg (by omega)];simp [Rat.add_zero,Rat.zero_mul,Rat.mul_zero]
   ·have hla:l = P.length:=by omega
    rw [if_neg hl',if_pos hla,hmul,hla]
    by_cases hja:j = P.length
    ·rw [if_pos hja,if_pos hja]
    ·rw [if_neg hja,if_neg hja,Rat.one_mul,Rat.add_neg_cancel]
  ·rw [getD_snoc] at hc
   by_cases hl':l < P.length
   ·rw [if_pos hl'] at hc
    have hck:=h.lt l hl'
    rw [hN _ _ (by omega),if_neg (by omega),hz c (by omega),hsl l c hl',h.lead l c hl' hc];simp [Rat.add_zero,Rat.zero_mul,Rat.mul_zero]
   ·rw [if_neg hl',if_pos (by omega)] at hc
    rw [hN _ _ (by omega),if_pos (by omega),hz c hc];simp [Rat.add_zero,Rat.zero_mul,Rat.mul_zero]
  ·rw [hN _ _ hln,if_neg (by omega)]
   by_cases hck:c = k
   ·rw [hck,hmul,Rat.one_mul,Rat.add_neg_cancel]
   ·rw [hz c (by omega),hsw l c (by omega) (by omega) hln];simp [Rat.add_zero,Rat.zero_mul,Rat.mul_zero]
theorem red_inv {Q:QM} {n m:Nat} (h:Shp Q n m) (k:Nat) (hk:k <= m):RInv n m (redTo Q k).1 (redTo Q k).2 k:=by
 induction k with
 | zero=>exact ⟨h,Nat.zero_le _,fun i hi=>absurd hi (by simp [redTo]),fun i j _ hi=>absurd hi (by simp [redTo]),fun i j hi=>absurd hi (by simp [redTo]),fun i c hi=>absurd hi (by simp [redTo]),fun i c _ _ hc=>by omega⟩
 | succ k ih=>rw [redTo_succ];exact step_inv (ih (by omega)) (by omega)
theorem RInv.room {n m:Nat} {M:QM} {P:List Nat} {k:Nat} (h:RInv n m M P k) (d:Nat):∀ i,i < P.length -> d = P.length - i -> P.getD i 0 + d <= k:=by
 induction d with
 | zero=>intro i h1 h2;omega
 | succ d ih =>
  intro i h1 h2
  by_cases he:i + 1 < P.length
  ·have h3:=ih (i + 1) he (by omega)
   have h4:=h.inc i (i + 1) (by omega) he
   omega
  ·have:=h.lt i h1
   omega
theorem RInv.len_le {n m:Nat} {M:QM} {P:List Nat} {k:Nat} (h:RInv n m M P k):P.length <= k:=by
 by_cases h0:P.length = 0
 ·omega
 ·have:=h.room P.length 0 (by omega) (by omega);omega
theorem RInv.ge {n m:Nat} {M:QM} {P:List Nat} {k:Nat} (h:RInv n m M P k):∀ i,i < P.length -> i <= P.getD i 0:=by
 intro i
 induction i with
 | zero=>intro _;exact Nat.zero_le _
 | succ i ih=>intro hi;have h1:=ih (by omega);have h2:=h.inc i (i + 1) (by omega) hi;omega
theorem RInv.id {n m:Nat} {M:QM} {P:List Nat} {k:Nat} (h:RInv n m M P k) (hp:P.length = k):∀ i,i < P.length -> P.getD i 0 = i:=fun i hi=>by
 have h1:=h.ge i hi
 have h2:=h.room (P.length - i) i hi rfl
 omega
theorem set_self {M:QM} {i:Nat} (h:i < M.length):M.set i (M.getD i []) = M:=by
 apply List.ext_getElem?
 intro j
 by_cases he:i = j
 ·subst he
  rw [List.getElem?_set_self h,List.getD_eq_getElem?_getD,List.getElem?_eq_getElem h];rfl
 ·rw [List.getElem?_set_ne he]
theorem again {n m:Nat} {R:QM} {P:List Nat} (h:RInv n m R P m) (k:Nat) (hk:k <= m) :
  ∃ t,t <= P.length /\ redTo R k = (R,P.take t) /\ (∀ i,i < t -> P.getD i 0 < k) /\ (∀ i,t <= i -> i < P.length -> k <= P.getD i 0):=by
 induction k with
 | zero=>exact ⟨0,Nat.zero_le _,rfl,fun i hi=>by omega,fun i _ _=>Nat.zero_le _⟩
 | succ k ih =>
  obtain ⟨t,h1,h2,h3,h4⟩:=ih (by omega)
  have hl:=h.shp.1
  have hle:=h.le
  have htl:(P.take t).length = t:=by rw [List.length_take];omega
  rw [redTo_succ,h2]
  unfold stepQ
  dsimp only
  rw [htl]
  by_cases hc:t < P.length /\ P.getD t 0 = k
  ·have h1t:=h.one t t hc.1 (by omega)
   rw [hc.2,if_pos rfl] at h1t
   have hp:pivQ R k t = t:=by
    unfold pivQ
    rw [show R.length - t = (n - t - 1) + 1 by omega]
    unfold pivFrom
    rw [h1t,if_neg (by decide)]
   have hs:swapL R t t = R:=by
    unfold swapL
    rw [set_self (by omega),set_self (by omega)]
   have ho:oneL R t k = R:=by
    unfold oneL
    have:scaleL (R.getD t []) (1 / eQ R t k) = R.getD t []:=by
     rw [h1t]
     unfold scaleL
     rw [show (1:Rat) / 1 = 1 by grind]
     simp
    rw [this,set_self (by omega)]
   have he:∀ j,j <= n -> elimTo R t k j = R:=by
    intro j
    induction j with
    | zero=>intro _;rfl
    | succ j ihj =>
     intro hj
     rw [elimTo_succ,ihj (by omega)]
     unfold elim1
     by_cases hjt:j = t
     ·rw [if_pos (.inl hjt)]
     ·have h5:=h.one t j hc.1 (by omega)
      rw [hc.2,if_neg hjt] at h5
      rw [if_pos (.inr h5)]
   rw [hp,if_neg (by omega),hs,ho,he _ (by omega)]
   refine ⟨t + 1,by omega,?_,fun i hi=>?_,fun i h5 h6=>?_⟩
   ·have:P.take t ++ [k] = P.take (t + 1):=by
     rw [List.take_succ_eq_append_getElem hc.1]
     have h6:=hc.2
     rw [List.getD_eq_getElem?_getD,List.getElem?_eq_getElem hc.1] at h6
     rw [show P[t] = k from h6]
    rw [this]
   ·by_cases hit:i = t
    ·rw [hit,hc.2];omega
    ·have:=h3 i (by omega);omega
   ·have h7:=h.inc t i (by omega) h6
    rw [hc.2] at h7
    omega
  ·have hz:pivQ R k t = R.length:=by
    unfold pivQ
    rw [pivFrom_all R k (R.length - t) t (fun j h5 h6=>?_)]
    ·omega
    ·by_cases hj:j < P.length
     ·refine h.lead j k hj ?_
      have h7:=h4 j h5 hj
      by_cases hjt:j = t
      ·subst hjt
       have:P.getD j 0 ≠ k:=fun e=>hc ⟨hj,e⟩
       omega
      ·have h8:=h4 t (Nat.le_refl _) (by omega)
       have h9:=h.inc t j (by omega) hj
       omega
     ·exact h.nil j k (by omega) (by omega) (by omega)
   rw [if_pos hz]
   refine ⟨t,h1,rfl,fun i hi=>by have:=h3 i hi;omega,fun i h5 h6=>?_⟩
   have h7:=h4 i h5 h6
   have h8:=h4 t (Nat.le_refl _) (by omega)
   by_cases hit:i = t
   ·subst hit
    have:P.getD i 0 ≠ k:=fun e=>hc ⟨h6,e⟩
    omega
   ·have h9:=h.inc t i (by omega) h6
    omega
theorem red_red {n m:Nat} {R:QM} {P:List Nat} (h:RInv n m R P m):redTo R m = (R,P):=by
 obtain ⟨t,h1,h2,_,h4⟩:=again h m (Nat.le_refl _)
 have ht:t = P.length:=by
  by_cases hlt:t < P.length
  ·have h5:=h4 t (Nat.le_refl _) hlt
   have h6:=h.lt t hlt
   omega
  ·omega
 rw [h2,ht,List.take_length]
end Go.Off
namespace Go.Off
structure Lin (m:Nat) (T:(Nat -> Rat) -> Prop):Prop where
 zero:T (fun _=>0)
 comb:∀ u w q,T u -> T w -> T (fun c=>u c + w c * q)
 congr:∀ u w,(∀ c,c < m -> u c = w c) -> T u -> T w
def Spn (n m:Nat) (f:Nat -> Nat -> Rat) (v:Nat -> Rat):Prop:=∀ T,Lin m T -> (∀ i,i < n -> T (f i)) -> T v
theorem Spn.row {n m:Nat} {f:Nat -> Nat -> Rat} {i:Nat} (h:i < n):Spn n m f (f i):=fun T _ hr=>hr i h
theorem Spn.lin (n m:Nat) (f:Nat -> Nat -> Rat):Lin m (Spn n m f) :=
 ⟨fun T hT _=>hT.zero,fun u w q hu hw T hT hr=>hT.comb u w q (hu T hT hr) (hw T hT hr),fun u w h hu T hT hr=>hT.congr u w h (hu T hT hr)⟩
theorem Spn.trans {n k m:Nat} {f g:Nat -> Nat -> Rat} {v:Nat -> Rat} (h:∀ i,i < k -> Spn n m f (g i)) (hv:Spn k m g v):Spn n m f v:=hv _ (Spn.lin n m f) h
theorem Spn.sum {n m:Nat} (f:Nat -> Nat -> Rat) (q:Nat -> Rat) (k:Nat) (hk:k <= n):Spn n m f (fun c=>sumR k (fun i=>f i c * q i)):=by
 induction k with
 | zero=>exact (Spn.lin n m f).zero
 | succ k ih=>exact (Spn.lin n m f).comb _ _ (q k) (ih (by omega)) (Spn.row (by omega))
theorem step_old {n m:Nat} {M:QM} {P:List Nat} {k:Nat} (h:RInv n m M P k) (hk:k < m) (j:Nat) (hj:j < n):Spn n m (eQ (stepQ (M,P) k).1) (eQ M j):=by
 rcases step_cases h with ⟨he,hz⟩ | ⟨i,hai,hin,hx,he⟩
 ·rw [he];exact Spn.row hj
 ·rw [he]
  dsimp only
  have ha:P.length < n:=by omega
  obtain ⟨hs,hN⟩:=step_at h.shp ha hin k
  generalize elimTo (oneL (swapL M P.length i) P.length k) P.length k n = N at *
  have hmul:eQ M i k * (1 / eQ M i k) = 1:=by rw [Rat.div_def,Rat.one_mul];exact Rat.mul_inv_cancel _ hx
  generalize 1 / eQ M i k = y at *
  have l:=Spn.lin n m (eQ N)
  have h1:Spn n m (eQ N) (eQ M i):=by
   refine l.congr _ _ ?_ (l.comb _ _ (eQ M i k) l.zero (Spn.row ha))
   intro c _
   rw [hN _ _ ha,if_pos rfl]
   grind
  have h2:∀ j,j < n -> j ≠ P.length -> Spn n m (eQ N) (swE M P.length i j):=fun j hj hja=>by
   refine l.congr _ _ ?_ (l.comb _ _ (swE M P.length i j k) (Spn.row hj) (Spn.row ha))
   intro c _
   rw [hN _ _ ha,hN _ _ hj,if_pos rfl,if_neg hja]
   grind
  by_cases hji:j = i
  ·rw [hji];exact h1
  ·by_cases hja:j = P.length
   ·have h3:=h2 i hin (by omega)
    refine l.congr _ _ ?_ h3
    intro c _
    unfold swE;rw [if_pos rfl,hja]
   ·have h3:=h2 j hj hja
    refine l.congr _ _ ?_ h3
    intro c _
    unfold swE;rw [if_neg hji,if_neg hja]
theorem step_new {n m:Nat} {M:QM} {P:List Nat} {k:Nat} (h:RInv n m M P k) (hk:k < m) (j:Nat) (hj:j < n):Spn n m (eQ M) (eQ (stepQ (M,P) k).1 j):=by
 rcases step_cases h with ⟨he,hz⟩ | ⟨i,hai,hin,hx,he⟩
 ·rw [he];exact Spn.row hj
 ·rw [he]
  dsimp only
  have ha:P.length < n:=by omega
  obtain ⟨hs,hN⟩:=step_at h.shp ha hin k
  generalize elimTo (oneL (swapL M P.length i) P.length k) P.length k n = N at *
  generalize 1 / eQ M i k = y at *
  have l:=Spn.lin n m (eQ M)
  have h2:∀ j,j < n -> Spn n m (eQ M) (swE M P.length i j):=fun j hj=>by
   unfold swE
   by_cases h3:j = i
   ·simp only [if_pos h3];exact Spn.row ha
   ·by_cases h4:j = P.length
    ·simp only [if_neg h3,if_pos h4];exact Spn.row hin
    ·simp only [if_neg h3,if_neg h4];exact Spn.row hj
  by_cases hja:j = P.length
  ·refine l.congr _ _ ?_ (l.comb _ _ y l.zero (Spn.row hin))
   intro c _
   rw [hN _ _ hj,if_pos hja]
   grind
  ·refine l.congr _ _ ?_ (l.comb _ _ (y * (-(swE M P.length i j k))) (h2 j hj) (Spn.row hin))
   intro c _
   rw [hN _ _ hj,if_neg hja]
   grind
theorem red_old {Q:QM} {n m:Nat} (h:Shp Q n m) (k:Nat) (hk:k <= m):∀ j,j < n -> Spn n m (eQ (redTo Q k).1) (eQ Q j):=by
 induction k with
 | zero=>intro j hj;exact Spn.row hj
 | succ k ih =>
  intro j hj
  rw [redTo_succ]
  exact Spn.trans (fun i hi=>step_old (red_inv h k (by omega)) (by omega) i hi) (ih (by omega) j hj)
theorem red_new {Q:QM} {n m:Nat} (h:Shp Q n m) (k:Nat) (hk:k <= m):∀ j,j < n -> Spn n m (eQ Q) (eQ (redTo Q k).1 j):=by
 induction k with
 | zero=>intro j hj;exact Spn.row hj
 | succ k ih =>
  intro j hj
  rw [redTo_succ]
  exact Spn.trans (ih (by omega)) (step_new (red_inv h k (by omega)) (by omega) j hj)
theorem spans {n m:Nat} {R:QM} {P:List Nat} (h:RInv n m R P m) {v:Nat -> Rat} (hv:Spn n m (eQ R) v):∀ c,c < m -> v c = sumR P.length (fun i=>eQ R i c * v (P.getD i 0)):=by
 refine hv (fun v=>∀ c,c < m -> v c = sumR P.length (fun i=>eQ R i c * v (P.getD i 0))) ⟨?_,?_,?_⟩ ?_
 ·intro c _
  rw [sumR_zero' (fun i _=>Rat.mul_zero _)]
 ·intro u w q hu hw c hc
  dsimp only
  rw [hu c hc,hw c hc,<- sumR_lin]
  refine sumR_congr (fun i _=>?_)
  grind
 ·intro u w he hu c hc
  rw [<- he c hc,hu c hc]
  exact sumR_congr (fun i hi=>by rw [he _ (h.lt i hi)])
 ·intro j hj c hc
  have h1:∀ i,i < P.length -> eQ R i c * eQ R j (P.getD i 0) = if j = i then eQ R i c else 0:=fun i hi=>by
   rw [h.one i j hi hj]
   split <;> simp
  rw [sumR_congr h1,sumR_single]
  split
  ·rfl
  ·rename_i h2;exact h.nil j c (by omega) hj hc
theorem red_spans {Q:QM} {n m:Nat} (h:Shp Q n m) (j c:Nat) (hj:j < n) (hc:c < m):eQ Q j c = sumR (redTo Q m).2.length (fun i=>eQ (redTo Q m).1 i c * eQ Q j ((redTo Q m).2.getD i 0)) :=
 spans (red_inv h m (Nat.le_refl _)) (red_old h m (Nat.le_refl _) j hj) c hc
theorem dim_le:∀ (r:Nat) (u:Nat -> Nat -> Rat) (m s:Nat) (w:Nat -> Nat -> Rat) (p:Nat -> Nat),(∀ i,i < s -> p i < m) -> (∀ i,i < s -> Spn r m u (w i)) ->
  (∀ i l,i < s -> l < s -> w i (p l) = if i = l then 1 else 0) -> s <= r:=by
 intro r
 induction r with
 | zero =>
  intro u m s w p hp hw h1
  by_cases h0:s = 0
  ·omega
  ·have hz:∀ c,c < m -> w 0 c = 0:=hw 0 (by omega) (fun v=>∀ c,c < m -> v c = 0) ⟨fun _ _=>rfl,fun u w q hu hw c hc=>by dsimp only;rw [hu c hc,hw c hc];simp [Rat.add_zero,Rat.zero_mul],fun u w he hu c hc=>by rw [<- he c hc];exact hu c hc⟩ (fun i hi=>by omega)
   have h2:=h1 0 0 (by omega) (by omega)
   rw [hz _ (hp 0 (by omega)),if_pos rfl] at h2
   exact absurd h2 (by decide)
 | succ r ih =>
  intro u m s w p hp hw h1
  cases s with
  | zero=>omega
  | succ s =>
   have hps:p s < m:=hp s (by omega)
   have hex:∃ l,l < r + 1 /\ u l (p s) ≠ 0:=by
    refine Classical.byContradiction (fun hn=>?_)
    have hz:w s (p s) = 0:=hw s (by omega) (fun v=>v (p s) = 0) ⟨rfl,fun u w q hu hw=>by dsimp only;rw [hu,hw];simp [Rat.add_zero,Rat.zero_mul],fun u w he hu=>by rw [<- he _ hps];exact hu⟩ (fun i hi=>Classical.byContradiction (fun h=>hn ⟨i,hi,h⟩))
    have h2:=h1 s s (by omega) (by omega)
    rw [hz,if_pos rfl] at h2
    exact absurd h2 (by decide)
   obtain ⟨l,hl,hx⟩:=hex
   have hmul:u l (p s) * (u l (p s))⁻¹ = 1:=Rat.mul_inv_cancel _ hx
   generalize hy:(u l (p s))⁻¹ = y at hmul
   have key:∀ v,Spn (r + 1) m u v -> Spn r m (fun j c=>u (if j = l then r else j) c + u l c * (-(u (if j = l then r else j) (p s) * y))) (fun c=>v c + u l c * (-(v (p s) * y))):=by
    intro v hv
    have L:=Spn.lin r m (fun j c=>u (if j = l then r else j) c + u l c * (-(u (if j = l then r else j) (p s) * y)))
    refine hv (fun v=>Spn r m (fun j c=>u (if j = l then r else j) c + u l c * (-(u (if j = l then r else j) (p s) * y))) (fun c=>v c + u l c * (-(v (p s) * y)))) ⟨?_,?_,?_⟩ ?_
    ·refine L.congr _ _ ?_ L.zero
     intro c _;grind
    ·intro a b q ha hb
     refine L.congr _ _ ?_ (L.comb _ _ q ha hb)
     intro c _;dsimp only;grind
    ·intro a b he ha
     refine L.congr _ _ ?_ ha
     intro c hc;rw [he c hc,he _ hps]
    ·intro j hj
     by_cases hjl:j = l
     ·subst hjl
      refine L.congr _ _ ?_ L.zero
      intro c _;grind
     ·by_cases hjr:j = r
      ·have hlr:l < r:=by omega
       have:=Spn.row (n:=r) (m:=m) (f:=fun j c=>u (if j = l then r else j) c + u l c * (-(u (if j = l then r else j) (p s) * y))) hlr
       simp only [if_true] at this
       rw [hjr];exact this
      ·have:=Spn.row (n:=r) (m:=m) (f:=fun j c=>u (if j = l then r else j) c + u l c * (-(u (if j = l then r else j) (p s) * y))) (i:=j) (by omega)
       simp only [if_neg hjl] at this
       exact this
   have:=ih (fun j c=>u (if j = l then r else j) c + u l c * (-(u (if j = l then r else j) (p s) * y))) m s w p (fun i hi=>hp i (by omega)) (fun i hi=>?_) (fun i l hi hl=>h1 i l (by omega) (by omega))
   ·omega
   ·refine (Spn.lin r m _).congr _ _ ?_ (key (w i) (hw i (by omega)))
    intro c _
    rw [h1 i s (by omega) (by omega),if_neg (by omega)]
    grind
theorem rank_le {Q T:QM} {n m:Nat} (hQ:Shp Q n m) (hT:Shp T m n) (h:∀ i k,i < n -> k < m -> eQ T k i = eQ Q i k):(redTo T n).2.length <= (redTo Q m).2.length:=by
 have hR:=red_inv hT n (Nat.le_refl _)
 refine dim_le _ (fun i j=>eQ Q j ((redTo Q m).2.getD i 0)) n _ (fun i=>eQ (redTo T n).1 i) (fun l=>(redTo T n).2.getD l 0) (fun i hi=>hR.lt i hi) (fun i hi=>?_) (fun i l hi hl=>?_)
 ·refine Spn.trans (fun k hk=>?_) (red_new hT n (Nat.le_refl _) i (by have:=hR.le;omega))
  refine (Spn.lin _ n _).congr _ _ ?_ (Spn.sum _ (fun i=>eQ (redTo Q m).1 i k) _ (Nat.le_refl _))
  intro j hj
  rw [h j k hj hk,red_spans hQ j k hj hk]
  exact sumR_congr (fun i _=>Rat.mul_comm _ _)
 ·have:=hR.one l i hl (by have:=hR.le;omega)
  exact this
theorem rank_turned {Q T:QM} {n m:Nat} (hQ:Shp Q n m) (hT:Shp T m n) (h:∀ i k,i < n -> k < m -> eQ T k i = eQ Q i k):(redTo T n).2.length = (redTo Q m).2.length :=
 Nat.le_antisymm (rank_le hQ hT h) (rank_le hT hQ (fun i k hi hk=>(h k i hk hi).symm))
end Go.Off
namespace Go.Off
def Indep (m:Nat) (f:Nat -> Nat -> Rat):Prop:=∀ c:Nat -> Rat,(∀ i,i < m -> sumR m (fun j=>f j i * c j) = 0) -> ∀ j,j < m -> c j = 0
structure LP where
 m:Nat
 n:Nat
 A:Nat -> Nat -> Rat
 b:Nat -> Rat
 c:Nat -> Rat
def InB (m:Nat) (bs:Nat -> Nat) (v:Nat):Prop:=∃ j,j < m /\ bs j = v
structure Dic (p:LP) (bs:Nat -> Nat) (x y:Nat -> Rat):Prop where
 lt:∀ j,j < p.m -> bs j < p.n + p.m
 ind:Indep p.m (fun j i=>p.A (bs j) i)
 sol:∀ i,i < p.m -> sumR p.m (fun j=>p.A (bs j) i * x j) = p.b i
 pos:∀ j,j < p.m -> 0 <= x j
 pr:∀ j,j < p.m -> sumR p.m (fun i=>p.A (bs j) i * y i) = p.c (bs j)
def redC (p:LP) (y:Nat -> Rat) (k:Nat):Rat:=p.c k - sumR p.m (fun i=>p.A k i * y i)
structure Piv (p:LP) (bs:Nat -> Nat) (x y:Nat -> Rat) (bs':Nat -> Nat) (k a:Nat) (d:Nat -> Rat):Prop where
 kn:k < p.n
 neg:redC p y k < 0
 least:∀ l,l < k -> 0 <= redC p y l
 dd:∀ i,i < p.m -> sumR p.m (fun j=>p.A (bs j) i * d j) = p.A k i
 al:a < p.m
 dpos:0 < d a
 min:∀ j,j < p.m -> 0 < d j -> x a * d j <= x j * d a
 tie:∀ j,j < p.m -> 0 < d j -> x a * d j = x j * d a -> bs a <= bs j
 next:∀ j,j < p.m -> bs' j = if j = a then k else bs j
theorem sumR_sub (n:Nat) (f g:Nat -> Rat):sumR n (fun i=>f i - g i) = sumR n f - sumR n g:=by
 have:=sumR_lin n f g (-1)
 rw [sumR_congr (g:=fun i=>f i + g i * (-1)) (fun i _=>by grind),this]
 grind
theorem sumR_mull (n:Nat) (f:Nat -> Rat) (q:Rat):sumR n (fun i=>q * f i) = q * sumR n f:=by
 rw [sumR_congr (g:=fun i=>f i * q) (fun i _=>Rat.mul_comm _ _),sumR_mul,Rat.mul_comm]
theorem Indep.inj {m:Nat} {A:Nat -> Nat -> Rat} {bs:Nat -> Nat} (h:Indep m (fun j i=>A (bs j) i)) {i j:Nat} (hi:i < m) (hj:j < m) (e:bs i = bs j):i = j:=by
 refine Classical.byContradiction (fun hne=>?_)
 have:=h (fun l=>(if i = l then 1 else 0) + (if j = l then -1 else 0)) (fun r _=>?_) i hi
 ·rw [if_pos rfl,if_neg (by omega)] at this
  grind
 ·have e1:∀ l,l < m -> A (bs l) r * ((if i = l then 1 else 0) + (if j = l then -1 else 0)) = (if i = l then A (bs l) r else 0) + (if j = l then -(A (bs l) r) else 0):=fun l _=>by
   split <;> split <;> grind
  rw [sumR_congr e1,sumR_add,sumR_single,sumR_single,if_pos hi,if_pos hj,e]
  grind
def fullX (m:Nat) (bs:Nat -> Nat) (x:Nat -> Rat) (v:Nat):Rat:=sumR m (fun j=>if bs j = v then x j else 0)
theorem sum_full {m N:Nat} {bs:Nat -> Nat} (h:∀ j,j < m -> bs j < N) (x g:Nat -> Rat):sumR N (fun v=>g v * fullX m bs x v) = sumR m (fun j=>g (bs j) * x j):=by
 have e1:∀ v,v < N -> g v * fullX m bs x v = sumR m (fun j=>if bs j = v then g v * x j else 0):=fun v _=>by
  unfold fullX
  rw [<- sumR_mull]
  refine sumR_congr (fun j _=>?_)
  split <;> simp
 rw [sumR_congr e1,sumR_comm]
 refine sumR_congr (fun j hj=>?_)
 rw [sumR_single N (bs j) (fun v=>g v * x j),if_pos (h j hj)]
theorem full_at {m:Nat} {bs:Nat -> Nat} (hi:∀ i j,i < m -> j < m -> bs i = bs j -> i = j) (x:Nat -> Rat) {j:Nat} (hj:j < m):fullX m bs x (bs j) = x j:=by
 unfold fullX
 rw [sumR_congr (g:=fun l=>if j = l then x l else 0) (fun l hl=>?_),sumR_single,if_pos hj]
 by_cases e:j = l
 ·rw [if_pos e,if_pos (by rw [e])]
 ·rw [if_neg e,if_neg (fun h=>e (hi l j hl hj h).symm)]
theorem full_out {m:Nat} {bs:Nat -> Nat} (x:Nat -> Rat) {v:Nat} (h:¬ InB m bs v):fullX m bs x v = 0:=by
 unfold fullX
 exact sumR_zero' (fun j hj=>if_neg (fun e=>h ⟨j,hj,e⟩))
theorem Indep.uniq {m:Nat} {f:Nat -> Nat -> Rat} {b x y:Nat -> Rat} (h:Indep m f) (hx:∀ i,i < m -> sumR m (fun j=>f j i * x j) = b i) (hy:∀ i,i < m -> sumR m (fun j=>f j i * y j) = b i):∀ j,j < m -> x j = y j:=by
 intro j hj
 have:=h (fun l=>x l - y l) (fun i hi=>?_) j hj
 ·grind
 ·rw [sumR_congr (g:=fun j=>f j i * x j - f j i * y j) (fun j _=>by grind),sumR_sub,hx i hi,hy i hi]
  grind
theorem Dic.inj {p:LP} {bs:Nat -> Nat} {x y:Nat -> Rat} (h:Dic p bs x y):∀ i j,i < p.m -> j < p.m -> bs i = bs j -> i = j:=fun i j hi hj e=>h.ind.inj hi hj e
theorem full_same {p:LP} {bs bs':Nat -> Nat} {x y x' y':Nat -> Rat} (h:Dic p bs x y) (h':Dic p bs' x' y') (hs:∀ v,InB p.m bs' v -> InB p.m bs v) (v:Nat):fullX p.m bs x v = fullX p.m bs' x' v:=by
 have e1:∀ w,fullX p.m bs (fun j=>fullX p.m bs' x' (bs j)) w = fullX p.m bs' x' w:=fun w=>by
  by_cases hw:InB p.m bs w
  ·obtain ⟨j,hj,rfl⟩:=hw
   exact full_at h.inj _ hj
  ·rw [full_out _ hw,full_out _ (fun h2=>hw (hs w h2))]
 have e2:∀ i,i < p.m -> sumR p.m (fun j=>p.A (bs j) i * fullX p.m bs' x' (bs j)) = p.b i:=fun i hi=>by
  rw [<- sum_full h.lt (fun j=>fullX p.m bs' x' (bs j)) (fun v=>p.A v i),sumR_congr (fun v _=>by rw [e1 v]),sum_full h'.lt,h'.sol i hi]
 have e3:=h.ind.uniq h.sol e2
 rw [<- e1 v]
 unfold fullX
 exact sumR_congr (fun j hj=>by rw [e3 j hj];rfl)
theorem sumR_repl {m a:Nat} (ha:a < m) (f c:Nat -> Rat) (g:Rat):sumR m (fun j=>(if j = a then g else f j) * c j) = sumR m (fun j=>f j * (if j = a then 0 else c j)) + g * c a:=by
 have e:∀ j,j < m -> (if j = a then g else f j) * c j = f j * (if j = a then 0 else c j) + (if a = j then g * c j else 0):=fun j _=>by
  by_cases h:j = a
  ·subst h;simp only [if_true];grind
  ·rw [if_neg h,if_neg h,if_neg (fun h2=>h h2.symm)];grind
 rw [sumR_congr e,sumR_add,sumR_single,if_pos ha]
def stepX (x d:Nat -> Rat) (a j:Nat):Rat:=if j = a then x a * (d a)⁻¹ else x j - x a * (d a)⁻¹ * d j
theorem Piv.indep {p:LP} {bs bs':Nat -> Nat} {x y d:Nat -> Rat} {k a:Nat} (h:Dic p bs x y) (hp:Piv p bs x y bs' k a d):Indep p.m (fun j i=>p.A (bs' j) i):=by
 intro c hc
 have e:∀ i,i < p.m -> sumR p.m (fun j=>p.A (bs j) i * ((if j = a then 0 else c j) + d j * c a)) = 0:=fun i hi=>by
  rw [<- hc i hi,sumR_congr (g:=fun j=>p.A (bs j) i * (if j = a then 0 else c j) + (p.A (bs j) i * d j) * c a) (fun j _=>by grind),sumR_lin,hp.dd i hi,<- sumR_repl hp.al]
  refine sumR_congr (fun j hj=>?_)
  show _ = p.A (bs' j) i * c j
  rw [hp.next j hj]
  split <;> rfl
 have hz:=h.ind _ e
 have ha:=hz a hp.al
 rw [if_pos rfl,Rat.zero_add] at ha
 have hca:c a = 0:=by
  rcases Rat.mul_eq_zero.1 ha with h1 | h1
  ·have:=hp.dpos;rw [h1] at this;exact absurd this (by decide)
  ·exact h1
 intro j hj
 by_cases hja:j = a
 ·rw [hja];exact hca
 ·have:=hz j hj
  rw [if_neg hja,hca] at this
  grind
theorem inv_pos {q:Rat} (h:0 < q):0 < q⁻¹:=by
 have h1:q * q⁻¹ = 1:=Rat.mul_inv_cancel _ (fun e=>by rw [e] at h;exact absurd h (by decide))
 refine Classical.byContradiction (fun hn=>?_)
 have h2:=Rat.mul_nonneg (Rat.le_of_lt h) (show 0 <= -(q⁻¹) by have:=Rat.not_lt.1 hn;grind)
 grind
theorem Piv.x {p:LP} {bs bs':Nat -> Nat} {x y d:Nat -> Rat} {k a:Nat} (h:Dic p bs x y) (hp:Piv p bs x y bs' k a d):∀ i,i < p.m -> sumR p.m (fun j=>p.A (bs' j) i * stepX x d a j) = p.b i:=by
 intro i hi
 have hda:d a * (d a)⁻¹ = 1:=Rat.mul_inv_cancel _ (fun e=>by have:=hp.dpos;rw [e] at this;exact absurd this (by decide))
 have e1:∀ j,j < p.m -> p.A (bs' j) i * stepX x d a j = (if j = a then p.A k i else p.A (bs j) i) * stepX x d a j:=fun j hj=>by
  rw [hp.next j hj];split <;> rfl
 have e2:∀ j,j < p.m -> p.A (bs j) i * (if j = a then 0 else stepX x d a j) = p.A (bs j) i * x j + p.A (bs j) i * d j * (-(x a * (d a)⁻¹)):=fun j _=>by
  unfold stepX
  by_cases e:j = a
  ·subst e;rw [if_pos rfl];grind
  ·rw [if_neg e,if_neg e];grind
 rw [sumR_congr e1,sumR_repl hp.al,sumR_congr e2,sumR_lin,h.sol i hi,hp.dd i hi]
 unfold stepX
 rw [if_pos rfl]
 grind
theorem Piv.pos {p:LP} {bs bs':Nat -> Nat} {x y d:Nat -> Rat} {k a:Nat} (h:Dic p bs x y) (hp:Piv p bs x y bs' k a d):∀ j,j < p.m -> 0 <= stepX x d a j:=by
 intro j hj
 have hi:=inv_pos hp.dpos
 have hda:d a * (d a)⁻¹ = 1:=Rat.mul_inv_cancel _ (fun e=>by have:=hp.dpos;rw [e] at this;exact absurd this (by decide))
 have hth:0 <= x a * (d a)⁻¹:=Rat.mul_nonneg (h.pos a hp.al) (Rat.le_of_lt hi)
 unfold stepX
 by_cases e:j = a
 ·rw [if_pos e];exact hth
 ·rw [if_neg e]
  by_cases hd:0 < d j
  ·have h1:=hp.min j hj hd
   have h2:=Rat.mul_le_mul_of_nonneg_right h1 (Rat.le_of_lt hi)
   have h3:x j * d a * (d a)⁻¹ = x j:=by rw [Rat.mul_assoc,hda,Rat.mul_one]
   have h4:x a * d j * (d a)⁻¹ = x a * (d a)⁻¹ * d j:=by grind
   rw [h3,h4] at h2
   grind
  ·have h1:0 <= -(d j):=by have:=Rat.not_lt.1 hd;grind
   have h2:=Rat.mul_nonneg hth h1
   have h3:=h.pos j hj
   grind
def costB (p:LP) (bs:Nat -> Nat) (x:Nat -> Rat):Rat:=sumR p.m (fun j=>p.c (bs j) * x j)
theorem price_d {p:LP} {bs:Nat -> Nat} {y d:Nat -> Rat} {k:Nat} (hy:∀ j,j < p.m -> sumR p.m (fun i=>p.A (bs j) i * y i) = p.c (bs j)) (hd:∀ i,i < p.m -> sumR p.m (fun j=>p.A (bs j) i * d j) = p.A k i) :
  sumR p.m (fun j=>p.c (bs j) * d j) = sumR p.m (fun i=>p.A k i * y i):=by
 have e1:∀ j,j < p.m -> p.c (bs j) * d j = sumR p.m (fun i=>p.A (bs j) i * d j * y i):=fun j hj=>by
  rw [<- hy j hj,<- sumR_mul]
  exact sumR_congr (fun i _=>by grind)
 rw [sumR_congr e1,sumR_comm]
 refine sumR_congr (fun i hi=>?_)
 rw [<- hd i hi,<- sumR_mul]
theorem Piv.cost {p:LP} {bs bs':Nat -> Nat} {x y d:Nat -> Rat} {k a:Nat} (h:Dic p bs x y) (hp:Piv p bs x y bs' k a d):costB p bs' (stepX x d a) = costB p bs x + x a * (d a)⁻¹ * redC p y k:=by
 have hda:d a * (d a)⁻¹ = 1:=Rat.mul_inv_cancel _ (fun e=>by have:=hp.dpos;rw [e] at this;exact absurd this (by decide))
 unfold costB redC
 have e1:∀ j,j < p.m -> p.c (bs' j) * stepX x d a j = (if j = a then p.c k else p.c (bs j)) * stepX x d a j:=fun j hj=>by
  rw [hp.next j hj];split <;> rfl
 have e2:∀ j,j < p.m -> p.c (bs j) * (if j = a then 0 else stepX x d a j) = p.c (bs j) * x j + p.c (bs j) * d j * (-(x a * (d a)⁻¹)):=fun j _=>by
  unfold stepX
  by_cases e:j = a
  ·subst e;rw [if_pos rfl];grind
  ·rw [if_neg e,if_neg e];grind
 rw [sumR_congr e1,sumR_repl hp.al,sumR_congr e2,sumR_lin,price_d h.pr hp.dd]
 unfold stepX
 rw [if_pos rfl]
 grind
structure Trace (p:LP) (T:Nat) (bs:Nat -> Nat -> Nat) (x y:Nat -> Nat -> Rat) (k a:Nat -> Nat) (d:Nat -> Nat -> Rat):Prop where
 dic:∀ t,t <= T -> Dic p (bs t) (x t) (y t)
 piv:∀ t,t < T -> Piv p (bs t) (x t) (y t) (bs (t + 1)) (k t) (a t) (d t)
variable {p:LP} {T:Nat} {bs:Nat -> Nat -> Nat} {x y:Nat -> Nat -> Rat} {k a:Nat -> Nat} {d:Nat -> Nat -> Rat}
theorem Trace.next (h:Trace p T bs x y k a d) {t:Nat} (ht:t < T):∀ j,j < p.m -> x (t + 1) j = stepX (x t) (d t) (a t) j :=
 (h.dic (t + 1) ht).ind.uniq (h.dic (t + 1) ht).sol ((h.piv t ht).x (h.dic t (by omega)))
theorem Trace.cost (h:Trace p T bs x y k a d) {t:Nat} (ht:t < T):costB p (bs (t + 1)) (x (t + 1)) = costB p (bs t) (x t) + x t (a t) * (d t (a t))⁻¹ * redC p (y t) (k t):=by
 rw [<- (h.piv t ht).cost (h.dic t (by omega))]
 unfold costB
 exact sumR_congr (fun j hj=>by rw [h.next ht j hj])
theorem Trace.theta (h:Trace p T bs x y k a d) {t:Nat} (ht:t < T):0 <= x t (a t) * (d t (a t))⁻¹ :=
 Rat.mul_nonneg ((h.dic t (by omega)).pos _ (h.piv t ht).al) (Rat.le_of_lt (inv_pos (h.piv t ht).dpos))
theorem Trace.down (h:Trace p T bs x y k a d) {t:Nat} (ht:t < T):costB p (bs (t + 1)) (x (t + 1)) <= costB p (bs t) (x t):=by
 rw [h.cost ht]
 have h1:=h.theta ht
 have h2:0 <= -(redC p (y t) (k t)):=by have:=(h.piv t ht).neg;grind
 have:=Rat.mul_nonneg h1 h2
 grind
theorem Trace.downs (h:Trace p T bs x y k a d) {s t:Nat} (hs:s <= t) (ht:t <= T):costB p (bs t) (x t) <= costB p (bs s) (x s):=by
 induction t with
 | zero=>obtain rfl:s = 0:=by omega
         exact Rat.le_refl
 | succ t ih =>
  by_cases e:s = t + 1
  ·rw [e];exact Rat.le_refl
  ·exact Rat.le_trans (h.down (by omega)) (ih (by omega) (by omega))
theorem Dic.cost {p:LP} {bs:Nat -> Nat} {x y:Nat -> Rat} (h:Dic p bs x y):costB p bs x = sumR (p.n + p.m) (fun v=>p.c v * fullX p.m bs x v):=(sum_full h.lt x p.c).symm
theorem Piv.inB {p:LP} {bs bs':Nat -> Nat} {x y d:Nat -> Rat} {k a:Nat} (hp:Piv p bs x y bs' k a d) {v:Nat}:InB p.m bs' v -> v = k \/ InB p.m bs v:=by
 rintro ⟨j,hj,rfl⟩
 rw [hp.next j hj]
 split
 ·exact .inl rfl
 ·exact .inr ⟨j,hj,rfl⟩
theorem Piv.outB {p:LP} {bs bs':Nat -> Nat} {x y d:Nat -> Rat} {k a:Nat} (hp:Piv p bs x y bs' k a d) {v:Nat}:InB p.m bs v -> v = bs a \/ InB p.m bs' v:=by
 rintro ⟨j,hj,rfl⟩
 by_cases e:j = a
 ·exact .inl (by rw [e])
 ·exact .inr ⟨j,hj,by rw [hp.next j hj,if_neg e]⟩
theorem Dic.red_zero {p:LP} {bs:Nat -> Nat} {x y:Nat -> Rat} (h:Dic p bs x y) {v:Nat} (hv:InB p.m bs v):redC p y v = 0:=by
 obtain ⟨j,hj,rfl⟩:=hv
 unfold redC
 rw [h.pr j hj]
 grind
theorem Trace.enters (h:Trace p T bs x y k a d) {v s:Nat}:∀ t,s <= t -> t <= T -> ¬ InB p.m (bs s) v -> InB p.m (bs t) v -> ∃ u,s <= u /\ u < t /\ k u = v:=by
 intro t
 induction t with
 | zero=>intro hs _ h1 h2;obtain rfl:s = 0:=by omega
         exact absurd h2 h1
 | succ t ih =>
  intro hs ht h1 h2
  by_cases e:s = t + 1
  ·rw [e] at h1;exact absurd h2 h1
  ·rcases (h.piv t (by omega)).inB h2 with hv | hv
   ·exact ⟨t,by omega,by omega,hv.symm⟩
   ·obtain ⟨u,h3,h4,h5⟩:=ih (by omega) (by omega) h1 hv
    exact ⟨u,h3,by omega,h5⟩
theorem Trace.leaves (h:Trace p T bs x y k a d) {v s:Nat}:∀ t,s <= t -> t <= T -> InB p.m (bs s) v -> ¬ InB p.m (bs t) v -> ∃ u,s <= u /\ u < t /\ bs u (a u) = v:=by
 intro t
 induction t with
 | zero=>intro hs _ h1 h2;obtain rfl:s = 0:=by omega
         exact absurd h1 h2
 | succ t ih =>
  intro hs ht h1 h2
  by_cases e:s = t + 1
  ·rw [e] at h1;exact absurd h1 h2
  ·by_cases hv:InB p.m (bs t) v
   ·rcases (h.piv t (by omega)).outB hv with hv | hv
    ·exact ⟨t,by omega,by omega,hv.symm⟩
    ·exact absurd hv h2
   ·obtain ⟨u,h3,h4,h5⟩:=ih (by omega) (by omega) h1 hv
    exact ⟨u,h3,by omega,h5⟩
theorem max_of (k:Nat -> Nat) (s:Nat):∀ t,s < t -> ∃ u,s <= u /\ u < t /\ ∀ r,s <= r -> r < t -> k r <= k u:=by
 intro t
 induction t with
 | zero=>intro h;omega
 | succ t ih =>
  intro h
  by_cases e:s = t
  ·exact ⟨t,by omega,by omega,fun r h1 h2=>by rw [show r = t by omega];exact Nat.le_refl _⟩
  ·obtain ⟨u,h1,h2,h3⟩:=ih (by omega)
   by_cases hk:k u <= k t
   ·refine ⟨t,by omega,by omega,fun r h4 h5=>?_⟩
    by_cases e:r = t
    ·rw [e];exact Nat.le_refl _
    ·have:=h3 r h4 (by omega);omega
   ·refine ⟨u,h1,by omega,fun r h4 h5=>?_⟩
    by_cases e:r = t
    ·rw [e];omega
    ·exact h3 r h4 (by omega)
theorem Trace.no_cycle (h:Trace p T bs x y k a d) {s t:Nat} (hst:s < t) (ht:t <= T):¬ (∀ v,InB p.m (bs s) v ↔ InB p.m (bs t) v):=by
 intro hsame
 have hDs:=h.dic s (by omega)
 have hDt:=h.dic t ht
 have hc:costB p (bs s) (x s) = costB p (bs t) (x t):=by
  rw [hDs.cost,hDt.cost]
  exact sumR_congr (fun v _=>by rw [full_same hDs hDt (fun v hv=>(hsame v).2 hv) v])
 have hth:∀ r,s <= r -> r < t -> x r (a r) = 0:=fun r h1 h2=>by
  have e1:=h.downs h1 (show r <= T by omega)
  have e2:=h.downs (show r + 1 <= t by omega) ht
  have e3:=h.cost (show r < T by omega)
  have e4:=h.theta (show r < T by omega)
  have e5:=(h.piv r (by omega)).neg
  have e6:x r (a r) * (d r (a r))⁻¹ * redC p (y r) (k r) = 0:=by
   have e7:x r (a r) * (d r (a r))⁻¹ * redC p (y r) (k r) <= 0:=by
    have:=Rat.mul_nonneg e4 (show 0 <= -(redC p (y r) (k r)) by grind)
    grind
   rw [<- hc] at e2
   generalize x r (a r) * (d r (a r))⁻¹ * redC p (y r) (k r) = z at *
   grind
  rcases Rat.mul_eq_zero.1 e6 with e | e
  ·rcases Rat.mul_eq_zero.1 e with e | e
   ·exact e
   ·have:=inv_pos (h.piv r (by omega)).dpos
    rw [e] at this
    exact absurd this (by decide)
  ·rw [e] at e5;exact absurd e5 (by decide)
 have hfull:∀ r,s <= r -> r <= t -> ∀ v,fullX p.m (bs r) (x r) v = fullX p.m (bs s) (x s) v:=by
  intro r
  induction r with
  | zero=>intro h1 _ v;obtain rfl:s = 0:=by omega
          rfl
  | succ r ih =>
   intro h1 h2 v
   by_cases e:s = r + 1
   ·rw [e]
   ·rw [<- ih (by omega) (by omega) v]
    have hr:r < T:=by omega
    have h0:=hth r (by omega) (by omega)
    have hx:∀ j,j < p.m -> x (r + 1) j = x r j:=fun j hj=>by
     rw [h.next hr j hj]
     unfold stepX
     rw [h0]
     split
     ·rename_i e2;rw [e2,h0,Rat.zero_mul]
     ·rw [Rat.zero_mul,Rat.zero_mul];grind
    unfold fullX
    refine sumR_congr (fun j hj=>?_)
    rw [hx j hj,(h.piv r hr).next j hj]
    by_cases e2:j = a r
    ·rw [if_pos e2,e2,h0];split <;> split <;> rfl
    ·rw [if_neg e2]
 obtain ⟨u,hu1,hu2,humax⟩:=max_of k s t hst
 have huT:u < T:=by omega
 have hPu:=h.piv u huT
 have hDu:=h.dic u (by omega)
 have hkB:InB p.m (bs (u + 1)) (k u):=⟨a u,hPu.al,by rw [hPu.next _ hPu.al,if_pos rfl]⟩
 have hkN:¬ InB p.m (bs u) (k u):=fun hin=>by
  have:=hDu.red_zero hin
  have:=hPu.neg
  grind
 have hleave:∃ r,s <= r /\ r < t /\ bs r (a r) = k u:=by
  by_cases hin:InB p.m (bs t) (k u)
  ·obtain ⟨r,h1,h2,h3⟩:=h.leaves u (by omega) (by omega) ((hsame _).2 hin) hkN
   exact ⟨r,h1,by omega,h3⟩
  ·obtain ⟨r,h1,h2,h3⟩:=h.leaves t (by omega) ht hkB hin
   exact ⟨r,by omega,h2,h3⟩
 obtain ⟨r,hr1,hr2,hr3⟩:=hleave
 have hrT:r < T:=by omega
 have hPr:=h.piv r hrT
 have hDr:=h.dic r (by omega)
 have hk1:=humax r hr1 hr2
 have hkr:k r < k u:=by
  rcases Nat.lt_or_eq_of_le hk1 with h1 | h1
  ·exact h1
  ·exfalso
   have:InB p.m (bs r) (k r):=⟨a r,hPr.al,by rw [hr3,h1]⟩
   have h2:=hDr.red_zero this
   have h3:=hPr.neg
   grind
 have hsum:redC p (y u) (k r) - sumR p.m (fun j=>redC p (y u) (bs r j) * d r j) = redC p (y r) (k r):=by
  have e1:∀ j,j < p.m -> redC p (y u) (bs r j) * d r j = p.c (bs r j) * d r j - sumR p.m (fun i=>p.A (bs r j) i * d r j * y u i):=fun j _=>by
   unfold redC
   have:sumR p.m (fun i=>p.A (bs r j) i * d r j * y u i) = sumR p.m (fun i=>p.A (bs r j) i * y u i) * d r j:=by
    rw [<- sumR_mul];exact sumR_congr (fun i _=>by grind)
   rw [this];grind
  have e2:sumR p.m (fun j=>sumR p.m (fun i=>p.A (bs r j) i * d r j * y u i)) = sumR p.m (fun i=>p.A (k r) i * y u i):=by
   rw [sumR_comm]
   refine sumR_congr (fun i hi=>?_)
   rw [sumR_mul,hPr.dd i hi]
  rw [sumR_congr e1,sumR_sub,e2,price_d hDr.pr hPr.dd]
  unfold redC
  grind
 have hneg:=hPr.neg
 have hge:=hPu.least (k r) hkr
 have hex:∃ j,j < p.m /\ 0 < redC p (y u) (bs r j) * d r j:=by
  refine Classical.byContradiction (fun hno=>?_)
  have hle:∀ m,m <= p.m -> sumR m (fun j=>redC p (y u) (bs r j) * d r j) <= 0:=by
   intro m
   induction m with
   | zero=>intro _;exact Rat.le_refl
   | succ m ih =>
    intro hm
    have h1:=ih (by omega)
    have h2:redC p (y u) (bs r m) * d r m <= 0:=Rat.not_lt.1 (fun h3=>hno ⟨m,by omega,h3⟩)
    show sumR m _ + redC p (y u) (bs r m) * d r m <= 0
    grind
  have:=hle p.m (Nat.le_refl _)
  grind
 obtain ⟨j,hj,hpos⟩:=hex
 have hrd:redC p (y u) (bs r j) ≠ 0:=fun e=>by rw [e,Rat.zero_mul] at hpos;exact absurd hpos (by decide)
 have hgu:¬ InB p.m (bs u) (bs r j):=fun hin=>hrd (hDu.red_zero hin)
 have hgr:InB p.m (bs r) (bs r j):=⟨j,hj,rfl⟩
 have hent:∃ w,s <= w /\ w < t /\ k w = bs r j:=by
  by_cases hs2:InB p.m (bs s) (bs r j)
  ·obtain ⟨w,h1,h2,h3⟩:=h.enters t (by omega) ht hgu ((hsame _).1 hs2)
   exact ⟨w,by omega,h2,h3⟩
  ·obtain ⟨w,h1,h2,h3⟩:=h.enters r (by omega) (by omega) hs2 hgr
   exact ⟨w,h1,by omega,h3⟩
 obtain ⟨w,hw1,hw2,hw3⟩:=hent
 have hle:=humax w hw1 hw2
 rw [hw3] at hle
 by_cases hje:j = a r
 ·rw [hje,hr3] at hpos
  have h1:=hPu.neg
  have h2:=hPr.dpos
  have h3:=Rat.mul_nonneg (show 0 <= -(redC p (y u) (k u)) by grind) (Rat.le_of_lt h2)
  grind
 ·have hlt:bs r j < k u:=by
   rcases Nat.lt_or_eq_of_le hle with h1 | h1
   ·exact h1
   ·exact absurd (hDr.inj j (a r) hj hPr.al (by rw [h1,hr3])) hje
  have h1:=hPu.least _ hlt
  have hdj:0 < d r j:=by
   refine Classical.byContradiction (fun hn=>?_)
   have h2:=Rat.mul_nonneg h1 (show 0 <= -(d r j) by have:=Rat.not_lt.1 hn;grind)
   grind
  have hx0:x r j = 0:=by
   rw [<- full_at hDr.inj (x r) hj,hfull r hr1 (by omega),<- hfull u hu1 (by omega)]
   exact full_out _ hgu
  have:=hPr.tie j hj hdj (by rw [hth r hr1 hr2,hx0,Rat.zero_mul,Rat.zero_mul])
  omega
end Go.Off
namespace Go.Off
def subsL:Nat -> Nat -> List Nat
 | 0,0=>[0]
 | 0,_ + 1=>[]
 | N + 1,0=>subsL N 0
 | N + 1,m + 1=>subsL N (m + 1) ++ (subsL N m).map (· + 2 ^ N)
def chN:Nat -> Nat -> Nat
 | 0,0=>1
 | 0,_ + 1=>0
 | N + 1,0=>chN N 0
 | N + 1,m + 1=>chN N (m + 1) + chN N m
theorem subsL_len:∀ N m,(subsL N m).length = chN N m
 | 0,0=>rfl
 | 0,_ + 1=>rfl
 | N + 1,0=>subsL_len N 0
 | N + 1,m + 1=>by
  show (subsL N (m + 1) ++ (subsL N m).map (· + 2 ^ N)).length = chN N (m + 1) + chN N m
  rw [List.length_append,List.length_map,subsL_len,subsL_len]
def codeN:Nat -> (Nat -> Bool) -> Nat
 | 0,_=>0
 | N + 1,P=>codeN N P + if P N then 2 ^ N else 0
def cntN:Nat -> (Nat -> Bool) -> Nat
 | 0,_=>0
 | N + 1,P=>cntN N P + if P N then 1 else 0
theorem codeN_lt:∀ N P,codeN N P < 2 ^ N
 | 0,_=>Nat.zero_lt_one
 | N + 1,P=>by
  have:=codeN_lt N P
  show codeN N P + (if P N then 2 ^ N else 0) < _
  rw [Nat.pow_succ]
  split <;> omega
theorem codeN_inj:∀ N P Q,codeN N P = codeN N Q -> ∀ v,v < N -> P v = Q v
 | 0,_,_,_,v,h=>by omega
 | N + 1,P,Q,h,v,hv=>by
  have h1:=codeN_lt N P
  have h2:=codeN_lt N Q
  change codeN N P + (if P N then 2 ^ N else 0) = codeN N Q + (if Q N then 2 ^ N else 0) at h
  have h3:P N = Q N:=by
   cases hp:P N <;> cases hq:Q N <;> rw [hp,hq] at h <;> simp at h ⊢ <;> omega
  by_cases e:v = N
  ·rw [e];exact h3
  ·rw [h3] at h
   exact codeN_inj N P Q (by omega) v (by omega)
theorem codeN_mem:∀ N P,codeN N P ∈ subsL N (cntN N P)
 | 0,_=>by simp [codeN,cntN,subsL]
 | N + 1,P=>by
  have ih:=codeN_mem N P
  show codeN N P + (if P N then 2 ^ N else 0) ∈ subsL (N + 1) (cntN N P + if P N then 1 else 0)
  cases P N with
  | true =>
   rw [if_pos rfl,if_pos rfl]
   exact List.mem_append_right _ (List.mem_map.2 ⟨_,ih,rfl⟩)
  | false =>
   rw [if_neg (by simp),if_neg (by simp),Nat.add_zero,Nat.add_zero]
   generalize codeN N P = c at *
   cases hm:cntN N P with
   | zero=>rw [hm] at ih;exact ih
   | succ m=>rw [hm] at ih;exact List.mem_append_left _ ih
theorem pigeon:∀ (T:Nat) (L:List Nat) (g:Nat -> Nat),(∀ t,t < T -> g t ∈ L) -> (∀ s t,s < t -> t < T -> g s ≠ g t) -> T <= L.length:=by
 intro T
 induction T with
 | zero=>intro L g _ _;exact Nat.zero_le _
 | succ T ih =>
  intro L g h1 h2
  have:=ih (L.erase (g T)) g (fun t ht=>(List.mem_erase_of_ne (h2 t T ht (by omega))).2 (h1 t (by omega))) (fun s t h3 h4=>h2 s t h3 (by omega))
  rw [List.length_erase_of_mem (h1 T (by omega))] at this
  have:=List.length_pos_of_mem (h1 T (by omega))
  omega
def inBb (m:Nat) (bs:Nat -> Nat) (v:Nat):Bool:=(List.range m).any fun j=>bs j == v
theorem inBb_iff {m:Nat} {bs:Nat -> Nat} {v:Nat}:inBb m bs v = true ↔ InB m bs v:=by
 unfold inBb InB
 rw [List.any_eq_true]
 constructor
 ·rintro ⟨j,hj,e⟩;exact ⟨j,List.mem_range.1 hj,by simpa using e⟩
 ·rintro ⟨j,hj,e⟩;exact ⟨j,List.mem_range.2 hj,by simpa using e⟩
theorem cnt_sum (P:Nat -> Bool):∀ N,((cntN N P:Nat):Rat) = sumR N (fun v=>if P v then 1 else 0)
 | 0=>rfl
 | N + 1=>by
  show ((cntN N P + (if P N then 1 else 0):Nat):Rat) = sumR N _ + (if P N then 1 else 0)
  rw [Rat.natCast_add,cnt_sum P N]
  cases P N <;> rfl
theorem sumR_one:∀ m:Nat,sumR m (fun _=>1) = (m:Rat)
 | 0=>rfl
 | m + 1=>by show sumR m _ + 1 = _;rw [sumR_one m,Rat.natCast_add];rfl
theorem cnt_basis {m N:Nat} {bs:Nat -> Nat} (h:∀ j,j < m -> bs j < N) (hi:∀ i j,i < m -> j < m -> bs i = bs j -> i = j):cntN N (inBb m bs) = m:=by
 have e:∀ v,v < N -> (if inBb m bs v then (1:Rat) else 0) = 1 * fullX m bs (fun _=>1) v:=fun v _=>by
  rw [Rat.one_mul]
  by_cases hv:InB m bs v
  ·rw [if_pos (inBb_iff.2 hv)]
   obtain ⟨j,hj,rfl⟩:=hv
   exact (full_at hi (fun _=>1) hj).symm
  ·rw [if_neg (fun h=>hv (inBb_iff.1 h)),full_out _ hv]
 have h1:((cntN N (inBb m bs):Nat):Rat) = (m:Rat):=by
  rw [cnt_sum,sumR_congr e,sum_full h (fun _=>1) (fun _=>1),<- sumR_one]
  exact sumR_congr (fun _ _=>Rat.one_mul _)
 exact_mod_cast h1
theorem Trace.short {p:LP} {T:Nat} {bs:Nat -> Nat -> Nat} {x y:Nat -> Nat -> Rat} {k a:Nat -> Nat} {d:Nat -> Nat -> Rat} (h:Trace p T bs x y k a d):T + 1 <= chN (p.n + p.m) p.m:=by
 rw [<- subsL_len]
 refine pigeon (T + 1) _ (fun t=>codeN (p.n + p.m) (inBb p.m (bs t))) (fun t ht=>?_) (fun s t hst ht he=>?_)
 ·have hD:=h.dic t (by omega)
  have:=codeN_mem (p.n + p.m) (inBb p.m (bs t))
  rwa [cnt_basis hD.lt hD.inj] at this
 ·refine h.no_cycle hst (show t <= T by omega) (fun v=>?_)
  have hDs:=h.dic s (by omega)
  have hDt:=h.dic t (by omega)
  by_cases hv:v < p.n + p.m
  ·have:=codeN_inj _ _ _ he v hv
   rw [<- inBb_iff,<- inBb_iff,this]
  ·constructor
   ·rintro ⟨j,hj,rfl⟩;exact absurd (hDs.lt j hj) hv
   ·rintro ⟨j,hj,rfl⟩;exact absurd (hDt.lt j hj) hv
theorem ch_simplex:∀ m,m <= 4 -> ∀ n,n <= 8 -> chN (n + m) m <= 495:=by decide +kernel
theorem ch_price:∀ m,m <= 6 -> ∀ n,n <= 14 -> chN (n + m) m <= 38760:=by decide +kernel
end Go.Off
namespace Go.Off
def IndepN (n k:Nat) (f:Nat -> Nat -> Rat):Prop:=∀ c:Nat -> Rat,(∀ i,i < n -> sumR k (fun j=>f j i * c j) = 0) -> ∀ j,j < k -> c j = 0
theorem Lin.mono {k m:Nat} {T:(Nat -> Rat) -> Prop} (h:Lin k T) (hk:k <= m):Lin m T:=⟨h.zero,h.comb,fun u w he hu=>h.congr u w (fun c hc=>he c (by omega)) hu⟩
theorem Spn.mono {n k m:Nat} {f:Nat -> Nat -> Rat} {v:Nat -> Rat} (h:Spn n m f v) (hk:k <= m):Spn n k f v:=fun T hT hr=>h T (hT.mono hk) hr
theorem spans_k {n m k:Nat} {R:QM} {P:List Nat} (h:RInv n m R P k) {v:Nat -> Rat} (hv:Spn n k (eQ R) v):∀ c,c < k -> v c = sumR P.length (fun i=>eQ R i c * v (P.getD i 0)):=by
 refine hv (fun v=>∀ c,c < k -> v c = sumR P.length (fun i=>eQ R i c * v (P.getD i 0))) ⟨?_,?_,?_⟩ ?_
 ·intro c _
  rw [sumR_zero' (fun i _=>Rat.mul_zero _)]
 ·intro u w q hu hw c hc
  dsimp only
  rw [hu c hc,hw c hc,<- sumR_lin]
  refine sumR_congr (fun i _=>?_)
  grind
 ·intro u w he hu c hc
  rw [<- he c hc,hu c hc]
  exact sumR_congr (fun i hi=>by rw [he _ (h.lt i hi)])
 ·intro j hj c hc
  have h1:∀ i,i < P.length -> eQ R i c * eQ R j (P.getD i 0) = if j = i then eQ R i c else 0:=fun i hi=>by
   rw [h.one i j hi hj]
   split <;> simp
  rw [sumR_congr h1,sumR_single]
  split
  ·rfl
  ·rename_i h2;exact h.nil j c (by omega) hj hc
theorem red_indep {Q:QM} {n m k:Nat} (h:Shp Q n m) (hk:k <= m):(redTo Q k).2.length = k ↔ IndepN n k (fun c j=>eQ Q j c):=by
 have hI:=red_inv h k hk
 constructor
 ·intro hl u hu
  have hz:∀ v,Spn n m (eQ Q) v -> sumR k (fun c=>v c * u c) = 0:=fun v hv=>by
   refine hv (fun v=>sumR k (fun c=>v c * u c) = 0) ⟨?_,?_,?_⟩ (fun i hi=>hu i hi)
   ·exact sumR_zero' (fun c _=>Rat.zero_mul _)
   ·intro a b q ha hb
    dsimp only
    rw [sumR_congr (g:=fun c=>a c * u c + b c * u c * q) (fun c _=>by grind),sumR_lin,ha,hb]
    grind
   ·intro a b he ha
    rw [<- ha]
    exact sumR_congr (fun c hc=>by rw [he c (by omega)])
  intro j hj
  have hjn:j < n:=by have:=hI.le;omega
  have h1:=hz _ (red_new h k hk j hjn)
  have h2:∀ c,c < k -> eQ (redTo Q k).1 j c * u c = if j = c then u c else 0:=fun c hc=>by
   have h3:=hI.one c j (by omega) hjn
   rw [hI.id hl c (by omega)] at h3
   rw [h3]
   split <;> simp
  rw [sumR_congr h2,sumR_single,if_pos hj] at h1
  exact h1
 ·intro hu
  refine Classical.byContradiction (fun hne=>?_)
  have hlt:(redTo Q k).2.length < k:=by have:=hI.len_le;omega
  have hex:∃ c,c < k /\ ¬ c ∈ (redTo Q k).2:=by
   refine Classical.byContradiction (fun hno=>?_)
   have:=pigeon k (redTo Q k).2 (fun t=>t) (fun t ht=>Classical.byContradiction (fun hn=>hno ⟨t,ht,hn⟩)) (fun s t h1 h2=>by omega)
   omega
  obtain ⟨c0,hc0,hn0⟩:=hex
  generalize hP:(redTo Q k).2 = P at *
  generalize hR:(redTo Q k).1 = R at *
  have hPl:∀ i,i < P.length -> (fun i=>P.getD i 0) i < k:=hI.lt
  have key:∀ j,j < n -> sumR k (fun c=>eQ Q j c * ((if c0 = c then 1 else 0) - fullX P.length (fun i=>P.getD i 0) (fun i=>eQ R i c0) c)) = 0:=fun j hj=>by
   have e1:∀ c,c < k -> eQ Q j c * ((if c0 = c then 1 else 0) - fullX P.length (fun i=>P.getD i 0) (fun i=>eQ R i c0) c) = (if c0 = c then eQ Q j c else 0) - eQ Q j c * fullX P.length (fun i=>P.getD i 0) (fun i=>eQ R i c0) c:=fun c _=>by
    split <;> grind
   rw [sumR_congr e1,sumR_sub,sumR_single,if_pos hc0,sum_full hPl]
   have h2:=spans_k hI (by rw [<- hR];exact (red_old h k hk j hj).mono hk) c0 hc0
   rw [h2,sumR_congr (g:=fun i=>eQ R i c0 * eQ Q j (P.getD i 0)) (fun i _=>Rat.mul_comm _ _)]
   grind
  have h3:=hu _ key c0 hc0
  rw [if_pos rfl,full_out] at h3
  ·grind
  ·rintro ⟨i,hi,e⟩
   have:P.getD i 0 ∈ P:=by rw [List.getD_eq_getElem?_getD,List.getElem?_eq_getElem hi];exact List.getElem_mem hi
   dsimp only at e
   rw [e] at this
   exact hn0 this
def sqOk (Q:QM) (n:Nat):Bool:=decide ((redTo Q (n + 1)).2.length = n) && (decide (n = 0) || decide ((redTo Q (n + 1)).2.getD (n - 1) 0 = n - 1))
theorem sq_ok {Q:QM} {n:Nat} (h:Shp Q n (n + 1)):sqOk Q n = true ↔ Indep n (fun c j=>eQ Q j c):=by
 have hI:=red_inv h (n + 1) (Nat.le_refl _)
 unfold sqOk
 simp only [Bool.and_eq_true,Bool.or_eq_true,decide_eq_true_eq]
 constructor
 ·rintro ⟨h1,h2⟩
  rcases h2 with h2 | h2
  ·subst h2;intro u _ j hj;omega
  ·have hid:∀ i,i < n -> (redTo Q (n + 1)).2.getD i 0 = i:=fun i hi=>by
    have h3:=hI.ge i (by omega)
    by_cases e:i = n - 1
    ·rw [e];exact h2
    ·have h4:∀ d,∀ i,i + d = n - 1 -> (redTo Q (n + 1)).2.getD i 0 + d <= n - 1:=by
      intro d
      induction d with
      | zero=>intro i hi;rw [show i = n - 1 by omega,h2];omega
      | succ d ih =>
       intro i hi
       have:=ih (i + 1) (by omega)
       have:=hI.inc i (i + 1) (by omega) (by omega)
       omega
     have:=h4 (n - 1 - i) i (by omega)
     omega
   intro u hu j hj
   have hz:∀ v,Spn n (n + 1) (eQ Q) v -> sumR n (fun c=>v c * u c) = 0:=fun v hv=>by
    refine hv (fun v=>sumR n (fun c=>v c * u c) = 0) ⟨?_,?_,?_⟩ (fun i hi=>hu i hi)
    ·exact sumR_zero' (fun c _=>Rat.zero_mul _)
    ·intro a b q ha hb
     dsimp only
     rw [sumR_congr (g:=fun c=>a c * u c + b c * u c * q) (fun c _=>by grind),sumR_lin,ha,hb]
     grind
    ·intro a b he ha
     rw [<- ha]
     exact sumR_congr (fun c hc=>by rw [he c (by omega)])
   have h5:=hz _ (red_new h (n + 1) (Nat.le_refl _) j hj)
   have h6:∀ c,c < n -> eQ (redTo Q (n + 1)).1 j c * u c = if j = c then u c else 0:=fun c hc=>by
    have h3:=hI.one c j (by omega) hj
    rw [hid c hc] at h3
    rw [h3]
    split <;> simp
   rw [sumR_congr h6,sumR_single,if_pos hj] at h5
   exact h5
 ·intro hu
  have h1:(redTo Q n).2.length = n:=(red_indep h (Nat.le_succ _)).2 hu
  have hn:=red_inv h n (Nat.le_succ _)
  have he:(redTo Q (n + 1)).2 = (redTo Q n).2:=by
   rw [redTo_succ]
   have hc:=step_cases hn
   have e2:((redTo Q n).1,(redTo Q n).2) = redTo Q n:=rfl
   rw [e2] at hc
   rcases hc with ⟨h2,_⟩ | ⟨i,h2,h3,_⟩
   ·rw [h2]
   ·omega
  rw [he]
  refine ⟨h1,?_⟩
  by_cases h0:n = 0
  ·exact .inl h0
  ·exact .inr (hn.id h1 (n - 1) (by omega))
theorem sq_sol {Q:QM} {n:Nat} (h:Shp Q n (n + 1)) (hok:sqOk Q n = true):∀ j,j < n -> sumR n (fun c=>eQ Q j c * eQ (redTo Q (n + 1)).1 c n) = eQ Q j n:=by
 have hI:=red_inv h (n + 1) (Nat.le_refl _)
 have hind:=(sq_ok h).1 hok
 have h1:(redTo Q n).2.length = n:=(red_indep h (Nat.le_succ _)).2 hind
 have hn:=red_inv h n (Nat.le_succ _)
 have he:redTo Q (n + 1) = redTo Q n:=by
  rw [redTo_succ]
  have hc:=step_cases hn
  have e2:((redTo Q n).1,(redTo Q n).2) = redTo Q n:=rfl
  rw [e2] at hc
  rcases hc with ⟨h2,_⟩ | ⟨i,h2,h3,_⟩
  ·rw [h2]
  ·omega
 intro j hj
 have h2:=red_spans h j n hj (Nat.lt_succ_self _)
 rw [he,h1] at h2
 rw [he,h2]
 refine sumR_congr (fun c hc=>?_)
 rw [hn.id h1 c (by omega)]
 exact Rat.mul_comm _ _
theorem indep_turn {Q T:QM} {n:Nat} (hQ:Shp Q n n) (hT:Shp T n n) (h:∀ i k,i < n -> k < n -> eQ T k i = eQ Q i k):Indep n (fun c j=>eQ T j c) ↔ Indep n (fun c j=>eQ Q j c):=by
 have h1:=red_indep hQ (Nat.le_refl n)
 have h2:=red_indep hT (Nat.le_refl n)
 have h3:=rank_turned hQ hT h
 have e1:Indep n (fun c j=>eQ T j c) ↔ (redTo T n).2.length = n:=h2.symm
 have e2:Indep n (fun c j=>eQ Q j c) ↔ (redTo Q n).2.length = n:=h1.symm
 rw [e1,e2,h3]
theorem Indep.congr {m:Nat} {f g:Nat -> Nat -> Rat} (h:Indep m f) (he:∀ j i,j < m -> i < m -> f j i = g j i):Indep m g:=fun c hc=>h c (fun i hi=>by
 rw [<- hc i hi];exact sumR_congr (fun j hj=>by rw [he j i hj hi]))
end Go.Off
namespace Go.Off
theorem getD_map0 {α β:Type} (l:List α) (f:α -> β) (i:Nat) (a:α) (b:β) (h:i < l.length):(l.map f).getD i b = f (l.getD i a):=by
 rw [List.getD_eq_getElem?_getD,List.getD_eq_getElem?_getD,List.getElem?_map,List.getElem?_eq_getElem h];rfl
theorem getD_range {n i:Nat} (h:i < n):(List.range n).getD i 0 = i:=by
 rw [List.getD_eq_getElem?_getD,List.getElem?_range h];rfl
theorem getD_mapR {β:Type} (n:Nat) (f:Nat -> β) (i:Nat) (b:β) (h:i < n):((List.range n).map f).getD i b = f i:=by
 rw [getD_map0 _ f i 0 b (by rw [List.length_range];exact h),getD_range h]
def augL (Q:QM) (b:List Rat):QM:=(List.range Q.length).map fun i=>Q.getD i [] ++ [b.getD i 0]
def solL (Q:QM) (b:List Rat):List Rat:=if sqOk (augL Q b) Q.length then (redTo (augL Q b) (Q.length + 1)).1.map (fun r=>r.getD Q.length 0) else []
theorem shp_aug {Q:QM} {n:Nat} (h:Shp Q n n) (b:List Rat):Shp (augL Q b) n (n + 1):=by
 unfold augL
 rw [h.1]
 refine ⟨by rw [List.length_map,List.length_range],fun i hi=>?_⟩
 rw [getD_mapR n _ i [] hi,List.length_append,h.2 i hi]
 rfl
theorem eQ_aug {Q:QM} {n:Nat} (h:Shp Q n n) (b:List Rat) {i c:Nat} (hi:i < n) (hc:c < n):eQ (augL Q b) i c = eQ Q i c:=by
 unfold augL eQ
 rw [h.1,getD_mapR n _ i [] hi,List.getD_eq_getElem?_getD,List.getElem?_append_left (by rw [h.2 i hi];exact hc),<- List.getD_eq_getElem?_getD]
theorem eQ_augn {Q:QM} {n:Nat} (h:Shp Q n n) (b:List Rat) {i:Nat} (hi:i < n):eQ (augL Q b) i n = b.getD i 0:=by
 unfold augL eQ
 rw [h.1,getD_mapR n _ i [] hi,List.getD_eq_getElem?_getD,List.getElem?_append_right (by rw [h.2 i hi];exact Nat.le_refl _),h.2 i hi,Nat.sub_self]
 rfl
theorem sol_ok {Q:QM} {n:Nat} (h:Shp Q n n) (b:List Rat):sqOk (augL Q b) n = true ↔ Indep n (fun c j=>eQ Q j c):=by
 rw [sq_ok (shp_aug h b)]
 exact ⟨fun hi=>hi.congr (fun j i hj hi=>eQ_aug h b hi hj),fun hi=>hi.congr (fun j i hj hi=>(eQ_aug h b hi hj).symm)⟩
theorem sol_spec {Q:QM} {n:Nat} (h:Shp Q n n) (b:List Rat) (hi:Indep n (fun c j=>eQ Q j c)) :
  (solL Q b).length = n /\ ∀ j,j < n -> sumR n (fun c=>eQ Q j c * (solL Q b).getD c 0) = b.getD j 0:=by
 have hok:=(sol_ok h b).2 hi
 have hA:=shp_aug h b
 have hI:=red_inv hA (n + 1) (Nat.le_refl _)
 have hs:(redTo (augL Q b) (n + 1)).1.length = n:=hI.shp.1
 unfold solL
 rw [h.1,if_pos hok]
 refine ⟨by rw [List.length_map,hs],fun j hj=>?_⟩
 rw [<- eQ_augn h b hj,<- sq_sol hA hok j hj]
 refine sumR_congr (fun c hc=>?_)
 rw [eQ_aug h b hj hc,getD_map0 (redTo (augL Q b) (n + 1)).1 (fun r:List Rat=>r.getD n 0) c [] 0 (by rw [hs];exact hc)]
 rfl
def unitL (m i:Nat):List Rat:=(List.range m).map fun j=>if j = i then 1 else 0
def turnL (m:Nat) (Q:QM):QM:=(List.range m).map fun k=>(List.range m).map fun j=>eQ Q j k
def dotR (a b:List Rat):Rat:=sumR (min a.length b.length) fun i=>a.getD i 0 * b.getD i 0
structure SD where
 n:Nat
 m:Nat
 cols:QM
 b:List Rat
structure SD.Wf (S:SD):Prop where
 cl:S.cols.length = S.n
 cm:∀ k,k < S.n -> (S.cols.getD k []).length = S.m
 bl:S.b.length = S.m
def colL (S:SD) (k:Nat):List Rat:=if S.n <= k then unitL S.m (k - S.n) else S.cols.getD k []
def sqL (S:SD) (bs:List Nat):QM:=bs.map (colL S)
def xL (S:SD) (bs:List Nat):List Rat:=solL (turnL S.m (sqL S bs)) S.b
def dL (S:SD) (bs:List Nat) (k:Nat):List Rat:=solL (turnL S.m (sqL S bs)) (S.cols.getD k [])
def costL (S:SD) (costs:List Rat) (own:Rat) (k:Nat):Rat:=if S.n <= k then own else costs.getD k 0
def yL (S:SD) (costs:List Rat) (own:Rat) (bs:List Nat):List Rat:=solL (sqL S bs) (bs.map (costL S costs own))
def enterL (S:SD) (costs y:List Rat):Option Nat:=(List.range S.n).find? fun k=>decide (costs.getD k 0 < dotR y (S.cols.getD k []))
def leaveTo (x d:List Rat) (bs:List Nat):Nat -> Option (Nat × Rat)
 | 0=>none
 | i + 1 =>
  if d.getD i 0 <= 0 then leaveTo x d bs i else
  match leaveTo x d bs i with
  | none=>some (i,x.getD i 0 * (d.getD i 0)⁻¹)
  | some (a,q)=>if x.getD i 0 * (d.getD i 0)⁻¹ < q \/ x.getD i 0 * (d.getD i 0)⁻¹ = q /\ bs.getD i 0 < bs.getD a 0 then some (i,x.getD i 0 * (d.getD i 0)⁻¹) else some (a,q)
def leaveL (x d:List Rat) (bs:List Nat):Option Nat:=(leaveTo x d bs x.length).map (·.1)
structure RO where
 err:Bool
 y:List Rat
 k:Option Nat
 d:List Rat
 bs:List Nat
 rem:Nat
inductive SxStep where
 | fin (k:Option Nat) (d:List Rat)
 | go (k a:Nat)
def stepL (S:SD) (costs:List Rat) (own:Rat) (bs:List Nat):SxStep :=
 match enterL S costs (yL S costs own bs) with
 | none=>.fin none []
 | some k=>match leaveL (xL S bs) (dL S bs k) bs with
  | none=>.fin (some k) (dL S bs k)
  | some a=>.go k a
def runL (S:SD) (costs:List Rat) (own:Rat):Nat -> List Nat -> RO
 | 0,bs=>match stepL S costs own bs with
  | .fin k d=>⟨false,yL S costs own bs,k,d,bs,0⟩
  | .go k _=>⟨true,[],some k,[],bs,0⟩
 | r + 1,bs=>match stepL S costs own bs with
  | .fin k d=>⟨false,yL S costs own bs,k,d,bs,r + 1⟩
  | .go k a=>runL S costs own r (bs.set a k)
def lpOf (S:SD) (costs:List Rat) (own:Rat):LP:=⟨S.m,S.n,fun v i=>(colL S v).getD i 0,fun i=>S.b.getD i 0,costL S costs own⟩
def bsF (bs:List Nat) (j:Nat):Nat:=bs.getD j 0
def lF (l:List Rat) (j:Nat):Rat:=l.getD j 0
structure BOk (S:SD) (bs:List Nat):Prop where
 len:bs.length = S.m
 lt:∀ j,j < S.m -> bs.getD j 0 < S.n + S.m
 ind:Indep S.m (fun j i=>(colL S (bsF bs j)).getD i 0)
theorem unitL_len (m i:Nat):(unitL m i).length = m:=by unfold unitL;rw [List.length_map,List.length_range]
theorem unitL_at (m i:Nat) {j:Nat} (h:j < m):(unitL m i).getD j 0 = if j = i then 1 else 0:=getD_mapR m _ j 0 h
theorem col_len {S:SD} (h:S.Wf) (k:Nat):(colL S k).length = S.m:=by
 unfold colL
 split
 ·exact unitL_len _ _
 ·exact h.cm k (by omega)
theorem shp_sq {S:SD} (h:S.Wf) {bs:List Nat} (hl:bs.length = S.m):Shp (sqL S bs) S.m S.m:=by
 unfold sqL
 refine ⟨by rw [List.length_map,hl],fun i hi=>?_⟩
 rw [getD_map0 bs (colL S) i 0 [] (by omega)]
 exact col_len h _
theorem eQ_sq {S:SD} {bs:List Nat} (hl:bs.length = S.m) {j:Nat} (hj:j < S.m) (i:Nat):eQ (sqL S bs) j i = (colL S (bsF bs j)).getD i 0:=by
 unfold eQ sqL
 rw [getD_map0 bs (colL S) j 0 [] (by omega)]
 rfl
theorem shp_turnL (m:Nat) (Q:QM):Shp (turnL m Q) m m:=by
 unfold turnL
 refine ⟨by rw [List.length_map,List.length_range],fun i hi=>?_⟩
 rw [getD_mapR m _ i [] hi,List.length_map,List.length_range]
theorem eQ_turnL {m:Nat} {Q:QM} {k j:Nat} (hk:k < m) (hj:j < m):eQ (turnL m Q) k j = eQ Q j k:=by
 unfold turnL
 rw [eQ,getD_mapR m _ k [] hk,getD_mapR m _ j 0 hj]
theorem sol_col {S:SD} (h:S.Wf) {bs:List Nat} (hb:BOk S bs) (b:List Rat) :
  (solL (turnL S.m (sqL S bs)) b).length = S.m /\ ∀ i,i < S.m -> sumR S.m (fun j=>(colL S (bsF bs j)).getD i 0 * lF (solL (turnL S.m (sqL S bs)) b) j) = b.getD i 0:=by
 have h1:Indep S.m (fun c j=>eQ (turnL S.m (sqL S bs)) j c):=hb.ind.congr (fun j i hj hi=>by rw [eQ_turnL hi hj,eQ_sq hb.len hj])
 have h2:=sol_spec (shp_turnL S.m (sqL S bs)) b h1
 refine ⟨h2.1,fun i hi=>?_⟩
 rw [<- h2.2 i hi]
 exact sumR_congr (fun j hj=>by rw [eQ_turnL hi hj,eQ_sq hb.len hj];rfl)
theorem sq_indep {S:SD} (h:S.Wf) {bs:List Nat} (hb:BOk S bs):Indep S.m (fun c j=>eQ (sqL S bs) j c):=by
 refine (indep_turn (shp_turnL S.m (sqL S bs)) (shp_sq h hb.len) (fun i k hi hk=>(eQ_turnL hi hk).symm)).2 ?_
 exact hb.ind.congr (fun j i hj hi=>by rw [eQ_turnL hi hj,eQ_sq hb.len hj])
theorem sol_row {S:SD} (h:S.Wf) {bs:List Nat} (hb:BOk S bs) (c:List Rat) :
  (solL (sqL S bs) c).length = S.m /\ ∀ j,j < S.m -> sumR S.m (fun i=>(colL S (bsF bs j)).getD i 0 * lF (solL (sqL S bs) c) i) = c.getD j 0:=by
 have h2:=sol_spec (shp_sq h hb.len) c (sq_indep h hb)
 refine ⟨h2.1,fun j hj=>?_⟩
 rw [<- h2.2 j hj]
 exact sumR_congr (fun i hi=>by rw [eQ_sq hb.len hj];rfl)
theorem x_len {S:SD} (h:S.Wf) {bs:List Nat} (hb:BOk S bs):(xL S bs).length = S.m:=(sol_col h hb _).1
theorem x_sol {S:SD} (h:S.Wf) {bs:List Nat} (hb:BOk S bs):∀ i,i < S.m -> sumR S.m (fun j=>(colL S (bsF bs j)).getD i 0 * lF (xL S bs) j) = S.b.getD i 0:=(sol_col h hb _).2
theorem d_len {S:SD} (h:S.Wf) {bs:List Nat} (hb:BOk S bs) (k:Nat):(dL S bs k).length = S.m:=(sol_col h hb _).1
theorem d_sol {S:SD} (h:S.Wf) {bs:List Nat} (hb:BOk S bs) {k:Nat} (hk:k < S.n):∀ i,i < S.m -> sumR S.m (fun j=>(colL S (bsF bs j)).getD i 0 * lF (dL S bs k) j) = (colL S k).getD i 0:=fun i hi=>by
 have:=(sol_col h hb (S.cols.getD k [])).2 i hi
 unfold colL at this ⊢
 rw [if_neg (show ¬ S.n <= k by omega)]
 exact this
theorem y_len {S:SD} (h:S.Wf) (costs:List Rat) (own:Rat) {bs:List Nat} (hb:BOk S bs):(yL S costs own bs).length = S.m:=(sol_row h hb _).1
theorem y_sol {S:SD} (h:S.Wf) (costs:List Rat) (own:Rat) {bs:List Nat} (hb:BOk S bs):∀ j,j < S.m -> sumR S.m (fun i=>(colL S (bsF bs j)).getD i 0 * lF (yL S costs own bs) i) = costL S costs own (bsF bs j):=fun j hj=>by
 have:=(sol_row h hb (bs.map (costL S costs own))).2 j hj
 rw [getD_map0 bs (costL S costs own) j 0 0 (by have:=hb.len;omega)] at this
 exact this
theorem dic_of {S:SD} (h:S.Wf) (costs:List Rat) (own:Rat) {bs:List Nat} (hb:BOk S bs) (hx:∀ j,j < S.m -> 0 <= lF (xL S bs) j):Dic (lpOf S costs own) (bsF bs) (lF (xL S bs)) (lF (yL S costs own bs)) :=
 ⟨hb.lt,hb.ind,x_sol h hb,hx,y_sol h costs own hb⟩
theorem dot_red {S:SD} (h:S.Wf) (costs:List Rat) (own:Rat) {bs:List Nat} (hb:BOk S bs) {k:Nat} (hk:k < S.n) :
  costs.getD k 0 - dotR (yL S costs own bs) (S.cols.getD k []) = redC (lpOf S costs own) (lF (yL S costs own bs)) k:=by
 unfold redC dotR lpOf costL colL lF
 rw [y_len h costs own hb,h.cm k hk,Nat.min_self]
 dsimp only
 rw [if_neg (show ¬ S.n <= k by omega),if_neg (show ¬ S.n <= k by omega)]
 rw [sumR_congr (fun i _=>Rat.mul_comm _ _)]
theorem enter_none {S:SD} (h:S.Wf) {costs:List Rat} {own:Rat} {bs:List Nat} (hb:BOk S bs) (he:enterL S costs (yL S costs own bs) = none):∀ k,k < S.n -> 0 <= redC (lpOf S costs own) (lF (yL S costs own bs)) k:=by
 intro k hk
 unfold enterL at he
 rw [List.find?_eq_none] at he
 have:=he k (List.mem_range.2 hk)
 rw [decide_eq_true_eq,Rat.not_lt] at this
 rw [<- dot_red h costs own hb hk]
 grind
theorem enter_some {S:SD} (h:S.Wf) {costs:List Rat} {own:Rat} {bs:List Nat} (hb:BOk S bs) {k:Nat} (he:enterL S costs (yL S costs own bs) = some k) :
  k < S.n /\ redC (lpOf S costs own) (lF (yL S costs own bs)) k < 0 /\ ∀ l,l < k -> 0 <= redC (lpOf S costs own) (lF (yL S costs own bs)) l:=by
 unfold enterL at he
 rw [List.find?_range_eq_some] at he
 obtain ⟨h1,h2,h3⟩:=he
 have hk:k < S.n:=List.mem_range.1 h2
 refine ⟨hk,?_,fun l hl=>?_⟩
 ·rw [decide_eq_true_eq] at h1
  rw [<- dot_red h costs own hb hk]
  grind
 ·have:=h3 l hl
  simp only [Bool.not_eq_true',decide_eq_false_iff_not,Rat.not_lt] at this
  rw [<- dot_red h costs own hb (show l < S.n by omega)]
  grind
theorem leave_none {x d:List Rat} {bs:List Nat}:∀ {i:Nat},leaveTo x d bs i = none -> ∀ j,j < i -> d.getD j 0 <= 0
 | 0,_,j,hj=>by omega
 | i + 1,h,j,hj=>by
  unfold leaveTo at h
  split at h
  ·rename_i h0
   by_cases e:j = i
   ·rw [e];exact h0
   ·exact leave_none h j (by omega)
  ·split at h
   ·cases h
   ·split at h <;> cases h
theorem leave_some {x d:List Rat} {bs:List Nat}:∀ {i a:Nat} {q:Rat},leaveTo x d bs i = some (a,q) -> a < i /\ 0 < d.getD a 0 /\ q = x.getD a 0 * (d.getD a 0)⁻¹ /\
  ∀ j,j < i -> 0 < d.getD j 0 -> q < x.getD j 0 * (d.getD j 0)⁻¹ \/ q = x.getD j 0 * (d.getD j 0)⁻¹ /\ bs.getD a 0 <= bs.getD j 0
 | 0,a,q,h=>by cases h
 | i + 1,a,q,h=>by
  unfold leaveTo at h
  split at h
  ·rename_i h0
   obtain ⟨h1,h2,h3,h4⟩:=leave_some h
   refine ⟨by omega,h2,h3,fun j hj hd=>?_⟩
   by_cases e:j = i
   ·subst e;exact absurd hd (Rat.not_lt.2 h0)
   ·exact h4 j (by omega) hd
  ·rename_i h0
   have h0':=Rat.not_le.1 h0
   split at h
   ·rename_i hn
    cases h
    refine ⟨by omega,h0',rfl,fun j hj hd=>?_⟩
    by_cases e:j = i
    ·subst e;exact .inr ⟨rfl,Nat.le_refl _⟩
    ·exact absurd hd (Rat.not_lt.2 (leave_none hn j (by omega)))
   ·rename_i a1 q1 hs
    obtain ⟨h1,h2,h3,h4⟩:=leave_some hs
    split at h
    ·rename_i hc
     cases h
     refine ⟨by omega,h0',rfl,fun j hj hd=>?_⟩
     by_cases e:j = i
     ·subst e;exact .inr ⟨rfl,Nat.le_refl _⟩
     ·have h5:=h4 j (by omega) hd
      rcases hc with hc | ⟨hc,hb⟩
      ·left;rcases h5 with h5 | ⟨h5,_⟩ <;> grind
      ·rcases h5 with h5 | ⟨h5,h6⟩
       ·left;grind
       ·right;exact ⟨by rw [hc];exact h5,by omega⟩
    ·rename_i hc
     cases h
     refine ⟨by omega,h2,h3,fun j hj hd=>?_⟩
     by_cases e:j = i
     ·subst e
      by_cases hl:q < x.getD j 0 * (d.getD j 0)⁻¹
      ·exact .inl hl
      ·right
       have hle:=Rat.not_lt.1 hl
       have he:x.getD j 0 * (d.getD j 0)⁻¹ = q:=by
        refine Classical.byContradiction (fun hne=>hc (.inl ?_))
        grind
       refine ⟨he.symm,Nat.not_lt.1 (fun hlt=>hc (.inr ⟨he,hlt⟩))⟩
     ·exact h4 j (by omega) hd
theorem piv_of {S:SD} (h:S.Wf) {costs:List Rat} {own:Rat} {bs:List Nat} (hb:BOk S bs) {k a:Nat} (hs:stepL S costs own bs = .go k a) :
  Piv (lpOf S costs own) (bsF bs) (lF (xL S bs)) (lF (yL S costs own bs)) (bsF (bs.set a k)) k a (lF (dL S bs k)):=by
 unfold stepL at hs
 split at hs
 ·cases hs
 ·rename_i k1 he
  split at hs
  ·cases hs
  ·rename_i a1 hl
   cases hs
   obtain ⟨h1,h2,h3⟩:=enter_some h hb he
   unfold leaveL at hl
   rw [Option.map_eq_some_iff] at hl
   obtain ⟨⟨a2,q⟩,hl,e⟩:=hl
   dsimp only at e
   subst e
   obtain ⟨g1,g2,g3,g4⟩:=leave_some hl
   rw [x_len h hb] at g1 g4
   refine ⟨h1,h2,h3,d_sol h hb h1,g1,g2,fun j hj hd=>?_,fun j hj hd he=>?_,fun j hj=>?_⟩
   ·have h5:=g4 j hj hd
    have i1:lF (dL S bs k) a2 * (lF (dL S bs k) a2)⁻¹ = 1:=Rat.mul_inv_cancel _ (fun e=>by rw [show (dL S bs k).getD a2 0 = lF (dL S bs k) a2 from rfl,e] at g2;exact absurd g2 (by decide))
    have i2:lF (dL S bs k) j * (lF (dL S bs k) j)⁻¹ = 1:=Rat.mul_inv_cancel _ (fun e=>by rw [e] at hd;exact absurd hd (by decide))
    have hle:lF (xL S bs) a2 * (lF (dL S bs k) a2)⁻¹ <= lF (xL S bs) j * (lF (dL S bs k) j)⁻¹:=by
     show (xL S bs).getD a2 0 * ((dL S bs k).getD a2 0)⁻¹ <= (xL S bs).getD j 0 * ((dL S bs k).getD j 0)⁻¹
     rw [<- g3]
     rcases h5 with h5 | ⟨h5,_⟩ <;> grind
    have:=Rat.mul_le_mul_of_nonneg_right hle (Rat.mul_nonneg (Rat.le_of_lt g2) (Rat.le_of_lt hd))
    show lF (xL S bs) a2 * lF (dL S bs k) j <= lF (xL S bs) j * lF (dL S bs k) a2
    have e1:lF (xL S bs) a2 * (lF (dL S bs k) a2)⁻¹ * ((dL S bs k).getD a2 0 * (dL S bs k).getD j 0) = lF (xL S bs) a2 * lF (dL S bs k) j:=by
     show lF (xL S bs) a2 * (lF (dL S bs k) a2)⁻¹ * (lF (dL S bs k) a2 * lF (dL S bs k) j) = _
     grind
    have e2:lF (xL S bs) j * (lF (dL S bs k) j)⁻¹ * ((dL S bs k).getD a2 0 * (dL S bs k).getD j 0) = lF (xL S bs) j * lF (dL S bs k) a2:=by
     show lF (xL S bs) j * (lF (dL S bs k) j)⁻¹ * (lF (dL S bs k) a2 * lF (dL S bs k) j) = _
     grind
    rw [<- e1,<- e2];exact this
   ·rcases g4 j hj hd with h5 | ⟨_,h6⟩
    ·exfalso
     have i1:lF (dL S bs k) a2 * (lF (dL S bs k) a2)⁻¹ = 1:=Rat.mul_inv_cancel _ (fun e=>by rw [show (dL S bs k).getD a2 0 = lF (dL S bs k) a2 from rfl,e] at g2;exact absurd g2 (by decide))
     have i2:lF (dL S bs k) j * (lF (dL S bs k) j)⁻¹ = 1:=Rat.mul_inv_cancel _ (fun e=>by rw [e] at hd;exact absurd hd (by decide))
     rw [g3] at h5
     have:lF (xL S bs) a2 * (lF (dL S bs k) a2)⁻¹ = lF (xL S bs) j * (lF (dL S bs k) j)⁻¹:=by
      have:=congrArg (fun z=>z * ((lF (dL S bs k) a2)⁻¹ * (lF (dL S bs k) j)⁻¹)) he
      have e3:lF (xL S bs) a2 * lF (dL S bs k) j * ((lF (dL S bs k) a2)⁻¹ * (lF (dL S bs k) j)⁻¹) = lF (xL S bs) j * lF (dL S bs k) a2 * ((lF (dL S bs k) a2)⁻¹ * (lF (dL S bs k) j)⁻¹):=this
      grind
     have h6:lF (xL S bs) a2 * (lF (dL S bs k) a2)⁻¹ < lF (xL S bs) j * (lF (dL S bs k) j)⁻¹:=h5
     grind
    ·exact h6
   ·unfold bsF
    rw [List.getD_eq_getElem?_getD,List.getElem?_set,List.getD_eq_getElem?_getD]
    have hjl:j < bs.length:=by rw [hb.len];exact hj
    by_cases e:j = a2
    ·subst e;simp [hjl]
    ·rw [if_neg (fun h=>e h.symm),if_neg e]
end Go.Off
namespace Go.Off
def consF {α:Type} (a:α) (f:Nat -> α):Nat -> α
 | 0=>a
 | t + 1=>f t
theorem Trace.cons {p:LP} {T:Nat} {bs:Nat -> Nat -> Nat} {x y:Nat -> Nat -> Rat} {k a:Nat -> Nat} {d:Nat -> Nat -> Rat} {bs0:Nat -> Nat} {x0 y0 d0:Nat -> Rat} {k0 a0:Nat}
  (h0:Dic p bs0 x0 y0) (hp:Piv p bs0 x0 y0 (bs 0) k0 a0 d0) (h:Trace p T bs x y k a d):Trace p (T + 1) (consF bs0 bs) (consF x0 x) (consF y0 y) (consF k0 k) (consF a0 a) (consF d0 d) :=
 ⟨fun t ht=>match t,ht with | 0,_=>h0 | t + 1,ht=>h.dic t (by omega),fun t ht=>match t,ht with | 0,_=>hp | t + 1,ht=>h.piv t (by omega)⟩
structure COk (S:SD) (bs:List Nat):Prop extends BOk S bs where
 pos:∀ j,j < S.m -> 0 <= lF (xL S bs) j
theorem COk.dic {S:SD} {bs:List Nat} (hb:COk S bs) (h:S.Wf) (costs:List Rat) (own:Rat):Dic (lpOf S costs own) (bsF bs) (lF (xL S bs)) (lF (yL S costs own bs)):=dic_of h costs own hb.toBOk hb.pos
theorem COk.next {S:SD} (h:S.Wf) {costs:List Rat} {own:Rat} {bs:List Nat} (hb:COk S bs) {k a:Nat} (hs:stepL S costs own bs = .go k a):COk S (bs.set a k):=by
 have hp:=piv_of h hb.toBOk hs
 have hd:=hb.dic h costs own
 have hB:BOk S (bs.set a k):=by
  refine ⟨by rw [List.length_set];exact hb.len,fun j hj=>?_,hp.indep hd⟩
  have:=hp.next j hj
  unfold bsF at this
  rw [this]
  have h1:=hp.kn
  have h2:=hb.lt j hj
  split
  ·show k < S.n + S.m;have:k < S.n:=h1;omega
  ·exact h2
 refine ⟨hB,fun j hj=>?_⟩
 have hx:=hp.x hd
 rw [hB.ind.uniq (x_sol h hB) hx j hj]
 exact hp.pos hd j hj
theorem stepL_row {S:SD} (h:S.Wf) {costs:List Rat} {own:Rat} {bs:List Nat} (hb:BOk S bs) {k a:Nat} (hs:stepL S costs own bs = .go k a):a < S.m /\ k < S.n :=
 ⟨(piv_of h hb hs).al,(piv_of h hb hs).kn⟩
theorem run_spec {S:SD} (h:S.Wf) {costs:List Rat} {own:Rat} (J:List Nat -> Prop) (hJ:∀ bs k a,COk S bs -> J bs -> stepL S costs own bs = .go k a -> J (bs.set a k)):∀ (rem:Nat) (bs:List Nat),COk S bs -> J bs ->
  COk S (runL S costs own rem bs).bs /\ J (runL S costs own rem bs).bs /\ (runL S costs own rem bs).rem <= rem /\
  (∃ fb fx fy fk fa fd,fb 0 = bsF bs /\ Trace (lpOf S costs own) (rem - (runL S costs own rem bs).rem) fb fx fy fk fa fd) /\
  ((runL S costs own rem bs).err = false /\ stepL S costs own (runL S costs own rem bs).bs = .fin (runL S costs own rem bs).k (runL S costs own rem bs).d /\ (runL S costs own rem bs).y = yL S costs own (runL S costs own rem bs).bs \/
    (runL S costs own rem bs).err = true /\ (runL S costs own rem bs).rem = 0 /\ ∃ k a,stepL S costs own (runL S costs own rem bs).bs = .go k a)
 | 0,bs,hb,hj=>by
  unfold runL
  have tr:∃ fb fx fy fk fa fd,fb 0 = bsF bs /\ Trace (lpOf S costs own) 0 fb fx fy fk fa fd :=
   ⟨fun _=>bsF bs,fun _=>lF (xL S bs),fun _=>lF (yL S costs own bs),fun _=>0,fun _=>0,fun _ _=>0,rfl,fun t _=>hb.dic h costs own,fun t ht=>by omega⟩
  split
  ·rename_i k d hs
   exact ⟨hb,hj,Nat.le_refl _,tr,.inl ⟨rfl,hs,rfl⟩⟩
  ·rename_i k a hs
   exact ⟨hb,hj,Nat.le_refl _,tr,.inr ⟨rfl,rfl,k,a,hs⟩⟩
 | r + 1,bs,hb,hj=>by
  unfold runL
  split
  ·rename_i k d hs
   refine ⟨hb,hj,Nat.le_refl _,?_,.inl ⟨rfl,hs,rfl⟩⟩
   rw [Nat.sub_self]
   exact ⟨fun _=>bsF bs,fun _=>lF (xL S bs),fun _=>lF (yL S costs own bs),fun _=>0,fun _=>0,fun _ _=>0,rfl,fun t _=>hb.dic h costs own,fun t ht=>by omega⟩
  ·rename_i k a hs
   obtain ⟨h1,h2,h3,⟨fb,fx,fy,fk,fa,fd,h4,h5⟩,h6⟩:=run_spec h J hJ r (bs.set a k) (hb.next h hs) (hJ bs k a hb hj hs)
   refine ⟨h1,h2,by omega,?_,h6⟩
   have hp:=piv_of h hb.toBOk hs
   rw [<- h4] at hp
   have ht:=h5.cons (hb.dic h costs own) hp
   have e:r - (runL S costs own r (bs.set a k)).rem + 1 = r + 1 - (runL S costs own r (bs.set a k)).rem:=by omega
   rw [e] at ht
   exact ⟨_,_,_,_,_,_,rfl,ht⟩
theorem run_more {S:SD} {costs:List Rat} {own:Rat}:∀ (rem:Nat) (bs:List Nat),(runL S costs own rem bs).err = false ->
  (runL S costs own rem bs).rem <= rem /\
  (∀ r2,rem - (runL S costs own rem bs).rem <= r2 -> runL S costs own r2 bs = { runL S costs own rem bs with rem:=r2 - (rem - (runL S costs own rem bs).rem) }) /\
  ∀ r2,r2 < rem - (runL S costs own rem bs).rem -> (runL S costs own r2 bs).err = true
 | 0,bs,he=>by
  cases hs:stepL S costs own bs with
  | fin k d =>
   have e0:∀ r,runL S costs own r bs = ⟨false,yL S costs own bs,k,d,bs,r⟩:=fun r=>by
    cases r <;> unfold runL <;> rw [hs]
   simp only [e0]
   exact ⟨Nat.le_refl _,fun r2 _=>by simp,fun r2 h2=>by omega⟩
  | go k a =>
   unfold runL at he
   rw [hs] at he
   cases he
 | r + 1,bs,he=>by
  cases hs:stepL S costs own bs with
  | fin k d =>
   have e0:∀ r,runL S costs own r bs = ⟨false,yL S costs own bs,k,d,bs,r⟩:=fun r=>by
    cases r <;> unfold runL <;> rw [hs]
   simp only [e0]
   exact ⟨Nat.le_refl _,fun r2 _=>by simp,fun r2 h2=>by omega⟩
  | go k a =>
   have e1:∀ r,runL S costs own (r + 1) bs = runL S costs own r (bs.set a k):=fun r=>by
    show (match stepL S costs own bs with | .fin k d=>_ | .go k a=>_) = _
    rw [hs]
   have e2:(runL S costs own 0 bs).err = true:=by unfold runL;rw [hs]
   rw [e1] at he ⊢
   obtain ⟨h1,h2,h3⟩:=run_more r (bs.set a k) he
   refine ⟨by omega,fun r2 hr=>?_,fun r2 hr=>?_⟩
   ·match r2,hr with
    | 0,hr=>omega
    | r2 + 1,hr =>
     have e3:r2 + 1 - (r + 1 - (runL S costs own r (bs.set a k)).rem) = r2 - (r - (runL S costs own r (bs.set a k)).rem):=by omega
     rw [e1,h2 r2 (by omega),e3]
   ·match r2,hr with
    | 0,hr=>exact e2
    | r2 + 1,hr=>rw [e1];exact h3 r2 (by omega)
theorem run_short {S:SD} (h:S.Wf) {costs:List Rat} {own:Rat} {bs:List Nat} (hb:COk S bs) {rem:Nat} (hr:chN (S.n + S.m) S.m <= rem):(runL S costs own rem bs).err = false /\ rem - (runL S costs own rem bs).rem + 1 <= chN (S.n + S.m) S.m:=by
 obtain ⟨_,_,h3,⟨fb,fx,fy,fk,fa,fd,h4,h5⟩,h6⟩:=run_spec h (costs:=costs) (own:=own) (fun _=>True) (fun _ _ _ _ _ _=>trivial) rem bs hb trivial
 have hs:=h5.short
 have hs':rem - (runL S costs own rem bs).rem + 1 <= chN (S.n + S.m) S.m:=hs
 refine ⟨?_,hs'⟩
 rcases h6 with ⟨h7,_⟩ | ⟨_,h8,_⟩
 ·exact h7
 ·rw [h8] at hs';omega
end Go.Off
namespace Go.Off
def clearAt (S:SD) (bs:List Nat) (i:Nat):List Nat :=
 if bs.getD i 0 < S.n then bs else
 match (List.range S.n).find? (fun k=>!bs.contains k && decide ((dL S bs k).getD i 0 ≠ 0)) with
 | none=>bs
 | some k=>bs.set i k
def clearTo (S:SD) (bs:List Nat):Nat -> List Nat
 | 0=>bs
 | i + 1=>clearAt S (clearTo S bs i) i
def spreadTo (n:Nat) (bs:List Nat) (l:List Rat):Nat -> List Rat
 | 0=>List.replicate n 0
 | i + 1=>if bs.getD i 0 < n then (spreadTo n bs l i).set (bs.getD i 0) (l.getD i 0) else spreadTo n bs l i
def spreadL (S:SD) (bs:List Nat) (l:List Rat):List Rat:=spreadTo S.n bs l bs.length
theorem sumR_cut {n:Nat} {f:Nat -> Rat}:∀ m,(∀ v,n <= v -> v < n + m -> f v = 0) -> sumR (n + m) f = sumR n f
 | 0,_=>rfl
 | m + 1,h=>by
  show sumR (n + m) f + f (n + m) = _
  rw [sumR_cut m (fun v h1 h2=>h v h1 (by omega)),h (n + m) (by omega) (by omega),Rat.add_zero]
theorem spread_len (n:Nat) (bs:List Nat) (l:List Rat):∀ i,(spreadTo n bs l i).length = n
 | 0=>by unfold spreadTo;exact List.length_replicate
 | i + 1=>by
  unfold spreadTo
  split
  ·rw [List.length_set,spread_len n bs l i]
  ·exact spread_len n bs l i
theorem getD_set0 {α:Type} (l:List α) (j i:Nat) (v a:α) (h:j < l.length):(l.set j v).getD i a = if i = j then v else l.getD i a:=by
 rw [List.getD_eq_getElem?_getD,List.getElem?_set,List.getD_eq_getElem?_getD]
 by_cases e:i = j
 ·subst e;simp [h]
 ·rw [if_neg (fun h=>e h.symm),if_neg e]
theorem spread_at {n m:Nat} {bs:List Nat} (hi:∀ i j,i < m -> j < m -> bsF bs i = bsF bs j -> i = j) (l:List Rat) {v:Nat} (hv:v < n):∀ i,i <= m -> (spreadTo n bs l i).getD v 0 = fullX i (bsF bs) (lF l) v
 | 0,_=>by
  unfold spreadTo fullX
  rw [List.getD_eq_getElem?_getD,List.getElem?_replicate_of_lt hv]
  rfl
 | i + 1,h=>by
  unfold spreadTo
  have ih:=spread_at hi l hv i (by omega)
  have e0:fullX (i + 1) (bsF bs) (lF l) v = fullX i (bsF bs) (lF l) v + (if bsF bs i = v then lF l i else 0):=rfl
  rw [e0]
  by_cases he:bsF bs i = v
  ·have he':bs.getD i 0 = v:=he
   rw [if_pos he,if_pos (by rw [he'];exact hv),getD_set0 _ _ _ _ _ (by rw [he',spread_len];exact hv),if_pos he'.symm]
   rw [full_out (lF l) (fun ⟨j,hj,e⟩=>by have:=hi j i (by omega) (by omega) (e.trans he.symm);omega),Rat.zero_add]
   rfl
  ·rw [if_neg he,Rat.add_zero]
   split
   ·rw [getD_set0 _ _ _ _ _ (by rw [spread_len];assumption),if_neg (fun h=>he h.symm)]
    exact ih
   ·exact ih
theorem indep_repl {m a:Nat} {f g:Nat -> Nat -> Rat} {d v:Nat -> Rat} (h:Indep m f) (ha:a < m) (hd:∀ i,i < m -> sumR m (fun j=>f j i * d j) = v i) (hda:d a ≠ 0) (hg:∀ j,j < m -> ∀ i,i < m -> g j i = if j = a then v i else f j i):Indep m g:=by
 intro c hc
 have e:∀ i,i < m -> sumR m (fun j=>f j i * ((if j = a then 0 else c j) + d j * c a)) = 0:=fun i hi=>by
  rw [<- hc i hi,sumR_congr (g:=fun j=>f j i * (if j = a then 0 else c j) + (f j i * d j) * c a) (fun j _=>by grind),sumR_lin,hd i hi]
  have:=sumR_repl ha (fun j=>f j i) c (v i)
  rw [<- this]
  exact sumR_congr (fun j hj=>by rw [hg j hj i hi])
 have hz:=h _ e
 have h0:=hz a ha
 rw [if_pos rfl,Rat.zero_add] at h0
 have hca:c a = 0:=by
  rcases Rat.mul_eq_zero.1 h0 with h1 | h1
  ·exact absurd h1 hda
  ·exact h1
 intro j hj
 by_cases hja:j = a
 ·rw [hja];exact hca
 ·have:=hz j hj
  rw [if_neg hja,hca] at this
  grind
def Dead (S:SD) (bs:List Nat) (i:Nat) (z:Nat -> Rat):Prop :=
 (∀ j,j < S.m -> sumR S.m (fun r=>(colL S (bsF bs j)).getD r 0 * z r) = if j = i then 1 else 0) /\ ∀ k,k < S.n -> sumR S.m (fun r=>(colL S k).getD r 0 * z r) = 0
theorem set_at {S:SD} {bs:List Nat} (hl:bs.length = S.m) {a k j:Nat} (ha:a < S.m):bsF (bs.set a k) j = if j = a then k else bsF bs j:=getD_set0 bs a j k 0 (by omega)
theorem Dead.set {S:SD} {bs:List Nat} {i a k:Nat} {z:Nat -> Rat} (hl:bs.length = S.m) (h:Dead S bs i z) (ha:a < S.m) (hk:k < S.n) (hne:a ≠ i):Dead S (bs.set a k) i z:=by
 refine ⟨fun j hj=>?_,h.2⟩
 rw [set_at hl ha]
 by_cases e:j = a
 ·rw [if_pos e,h.2 k hk,if_neg (by omega)]
 ·rw [if_neg e,h.1 j hj]
theorem Dead.coord {S:SD} {bs:List Nat} {i:Nat} {z v d:Nat -> Rat} (h:Dead S bs i z) (hi:i < S.m) (hd:∀ r,r < S.m -> sumR S.m (fun j=>(colL S (bsF bs j)).getD r 0 * d j) = v r):d i = sumR S.m (fun r=>v r * z r):=by
 have e1:∀ r,r < S.m -> v r * z r = sumR S.m (fun j=>(colL S (bsF bs j)).getD r 0 * d j * z r):=fun r hr=>by
  rw [<- hd r hr,sumR_mul]
 rw [sumR_congr e1,sumR_comm]
 have e2:∀ j,j < S.m -> sumR S.m (fun r=>(colL S (bsF bs j)).getD r 0 * d j * z r) = if i = j then d j else 0:=fun j hj=>by
  rw [sumR_congr (g:=fun r=>(colL S (bsF bs j)).getD r 0 * z r * d j) (fun r _=>by grind),sumR_mul,h.1 j hj]
  by_cases e:j = i
  ·rw [if_pos e,if_pos e.symm,Rat.one_mul]
  ·rw [if_neg e,if_neg (fun h=>e h.symm),Rat.zero_mul]
 rw [sumR_congr e2,sumR_single,if_pos hi]
def Zer (S:SD) (bs:List Nat):Prop:=∀ j,j < S.m -> S.n <= bsF bs j -> lF (xL S bs) j = 0
theorem clear_at {S:SD} (h:S.Wf) {bs:List Nat} (hb:COk S bs) (hz:Zer S bs) {i:Nat} (hi:i < S.m) (hd:∀ j,j < i -> S.n <= bsF bs j -> ∃ z,Dead S bs j z) :
  COk S (clearAt S bs i) /\ Zer S (clearAt S bs i) /\ ∀ j,j < i + 1 -> S.n <= bsF (clearAt S bs i) j -> ∃ z,Dead S (clearAt S bs i) j z:=by
 unfold clearAt
 split
 ·rename_i h0
  refine ⟨hb,hz,fun j hj hn=>?_⟩
  by_cases e:j = i
  ·subst e;have:bsF bs j < S.n:=h0;omega
  ·exact hd j (by omega) hn
 ·rename_i h0
  have h0':S.n <= bsF bs i:=Nat.not_lt.1 h0
  split
  ·rename_i hf
   refine ⟨hb,hz,fun j hj hn=>?_⟩
   by_cases e:j = i
   ·subst e
    rw [List.find?_eq_none] at hf
    have hs:=sol_row h hb.toBOk (unitL S.m j)
    have hs2:∀ j',j' < S.m -> sumR S.m (fun r=>(colL S (bsF bs j')).getD r 0 * lF (solL (sqL S bs) (unitL S.m j)) r) = if j' = j then 1 else 0:=fun j' hj'=>by
     rw [hs.2 j' hj',unitL_at _ _ hj']
    refine ⟨lF (solL (sqL S bs) (unitL S.m j)),hs2,fun k hk=>?_⟩
    have:=hf k (List.mem_range.2 hk)
    simp only [Bool.and_eq_true,Bool.not_eq_true',decide_eq_true_eq,not_and,Classical.not_not] at this
    by_cases hc:bs.contains k = true
    ·have hmem:k ∈ bs:=List.contains_iff_mem.1 hc
     obtain ⟨j2,hj2,e2⟩:=List.getElem_of_mem hmem
     have hj3:j2 < S.m:=by have:=hb.len;omega
     have e3:bsF bs j2 = k:=by unfold bsF;rw [List.getD_eq_getElem?_getD,List.getElem?_eq_getElem hj2,e2];rfl
     have:=hs2 j2 hj3
     rw [e3,if_neg (fun e=>by subst e;omega)] at this
     exact this
    ·have hdi:=this (by simpa using hc)
     have e1:=d_sol h hb.toBOk hk
     have e2:∀ r,r < S.m -> (colL S k).getD r 0 * lF (solL (sqL S bs) (unitL S.m j)) r = sumR S.m (fun j'=>(colL S (bsF bs j')).getD r 0 * lF (dL S bs k) j' * lF (solL (sqL S bs) (unitL S.m j)) r):=fun r hr=>by
      rw [<- e1 r hr,sumR_mul]
     rw [sumR_congr e2,sumR_comm]
     refine sumR_zero' (fun j' hj'=>?_)
     rw [sumR_congr (g:=fun r=>(colL S (bsF bs j')).getD r 0 * lF (solL (sqL S bs) (unitL S.m j)) r * lF (dL S bs k) j') (fun r _=>by grind),sumR_mul,hs2 j' hj']
     by_cases e:j' = j
     ·subst e;rw [if_pos rfl,Rat.one_mul];exact hdi
     ·rw [if_neg e,Rat.zero_mul]
   ·exact hd j (by omega) hn
  ·rename_i k hf
   rw [List.find?_range_eq_some] at hf
   obtain ⟨h1,h2,_⟩:=hf
   have hk:k < S.n:=List.mem_range.1 h2
   simp only [Bool.and_eq_true,Bool.not_eq_true',decide_eq_true_eq] at h1
   have hxi:lF (xL S bs) i = 0:=hz i hi h0'
   have hB:BOk S (bs.set i k):=by
    refine ⟨by rw [List.length_set];exact hb.len,fun j hj=>?_,?_⟩
    ·have:=set_at (S:=S) (k:=k) (j:=j) hb.len hi
     unfold bsF at this
     rw [this]
     have:=hb.lt j hj
     split <;> omega
    ·refine indep_repl (d:=lF (dL S bs k)) (v:=fun r=>(colL S k).getD r 0) hb.ind hi (d_sol h hb.toBOk hk) h1.2 (fun j hj r hr=>?_)
     rw [set_at hb.len hi]
     split <;> rfl
   have hX:∀ j,j < S.m -> lF (xL S (bs.set i k)) j = lF (xL S bs) j:=by
    refine hB.ind.uniq (x_sol h hB) (fun r hr=>?_)
    rw [<- x_sol h hb.toBOk r hr]
    refine sumR_congr (fun j hj=>?_)
    rw [set_at hb.len hi]
    by_cases e:j = i
    ·subst e;rw [hxi,Rat.mul_zero,Rat.mul_zero]
    ·rw [if_neg e]
   refine ⟨⟨hB,fun j hj=>by rw [hX j hj];exact hb.pos j hj⟩,fun j hj hn=>?_,fun j hj hn=>?_⟩
   ·rw [hX j hj]
    rw [set_at hb.len hi] at hn
    split at hn
    ·omega
    ·exact hz j hj hn
   ·rw [set_at hb.len hi] at hn
    split at hn
    ·omega
    ·rename_i hne
     obtain ⟨z,hz'⟩:=hd j (by omega) hn
     exact ⟨z,hz'.set hb.len hi hk (by omega)⟩
theorem clear_spec {S:SD} (h:S.Wf) {bs:List Nat} (hb:COk S bs) (hz:Zer S bs):∀ i,i <= S.m -> COk S (clearTo S bs i) /\ Zer S (clearTo S bs i) /\ ∀ j,j < i -> S.n <= bsF (clearTo S bs i) j -> ∃ z,Dead S (clearTo S bs i) j z
 | 0,_=>⟨hb,hz,fun j hj=>by omega⟩
 | i + 1,hi=>by
  obtain ⟨h1,h2,h3⟩:=clear_spec h hb hz i (by omega)
  exact clear_at h h1 h2 (by omega) h3
def Calm (S:SD) (bs:List Nat):Prop:=∀ j,j < S.m -> S.n <= bsF bs j -> ∃ z,Dead S bs j z /\ sumR S.m (fun r=>S.b.getD r 0 * z r) = 0
theorem calm_of {S:SD} (h:S.Wf) {bs:List Nat} (hb:COk S bs) (hz:Zer S bs) (hd:∀ j,j < S.m -> S.n <= bsF bs j -> ∃ z,Dead S bs j z):Calm S bs:=fun j hj hn=>by
 obtain ⟨z,h1⟩:=hd j hj hn
 exact ⟨z,h1,by rw [<- h1.coord hj (x_sol h hb.toBOk)];exact hz j hj hn⟩
theorem Calm.zer {S:SD} (h:S.Wf) {bs:List Nat} (hb:BOk S bs) (hc:Calm S bs):Zer S bs:=fun j hj hn=>by
 obtain ⟨z,h1,h2⟩:=hc j hj hn
 rw [h1.coord hj (x_sol h hb)];exact h2
theorem Calm.dz {S:SD} (h:S.Wf) {bs:List Nat} (hb:BOk S bs) (hc:Calm S bs) {k:Nat} (hk:k < S.n) {j:Nat} (hj:j < S.m) (hn:S.n <= bsF bs j):lF (dL S bs k) j = 0:=by
 obtain ⟨z,h1,h2⟩:=hc j hj hn
 rw [h1.coord hj (d_sol h hb hk)];exact h1.2 k hk
theorem Calm.step {S:SD} (h:S.Wf) {costs:List Rat} {own:Rat} {bs:List Nat} {k a:Nat} (hb:COk S bs) (hc:Calm S bs) (hs:stepL S costs own bs = .go k a):Calm S (bs.set a k):=by
 have hp:=piv_of h hb.toBOk hs
 have ha:a < S.m:=hp.al
 have hk:k < S.n:=hp.kn
 intro j hj hn
 rw [set_at hb.len ha] at hn
 split at hn
 ·omega
 ·rename_i hne
  obtain ⟨z,h1,h2⟩:=hc j hj hn
  exact ⟨z,h1.set hb.len ha hk (fun e=>hne e.symm),h2⟩
theorem spread_full {S:SD} {bs:List Nat} (hb:BOk S bs) (l:List Rat) {v:Nat} (hv:v < S.n):(spreadL S bs l).getD v 0 = fullX S.m (bsF bs) (lF l) v:=by
 unfold spreadL
 rw [hb.len]
 exact spread_at (fun i j hi hj e=>Indep.inj (A:=fun v r=>(colL S v).getD r 0) hb.ind hi hj e) l hv S.m (Nat.le_refl _)
theorem spreadL_len (S:SD) (bs:List Nat) (l:List Rat):(spreadL S bs l).length = S.n:=spread_len _ _ _ _
theorem full_zero {S:SD} {bs:List Nat} (hb:BOk S bs) {x:Nat -> Rat} (hz:∀ j,j < S.m -> S.n <= bsF bs j -> x j = 0) {v:Nat} (hv:S.n <= v):fullX S.m (bsF bs) x v = 0:=by
 refine sumR_zero' (fun j hj=>?_)
 split
 ·rename_i e;exact hz j hj (by rw [e];exact hv)
 ·rfl
theorem sum_spread {S:SD} {bs:List Nat} (hb:BOk S bs) (l:List Rat) (hz:∀ j,j < S.m -> S.n <= bsF bs j -> lF l j = 0) (g:Nat -> Rat):sumR S.n (fun v=>g v * (spreadL S bs l).getD v 0) = sumR S.m (fun j=>g (bsF bs j) * lF l j):=by
 rw [<- sum_full (N:=S.n + S.m) (bs:=bsF bs) (fun j hj=>hb.lt j hj) (lF l) g,sumR_cut S.m (fun v h1 _=>by rw [full_zero hb hz h1,Rat.mul_zero])]
 exact sumR_congr (fun v hv=>by rw [spread_full hb l hv])
theorem full_nn {m:Nat} {bs:Nat -> Nat} {x:Nat -> Rat} (h:∀ j,j < m -> 0 <= x j) (v:Nat):0 <= fullX m bs x v:=by
 unfold fullX
 induction m with
 | zero=>exact Rat.le_refl
 | succ m ih =>
  show 0 <= sumR m (fun j=>if bs j = v then x j else 0) + (if bs m = v then x m else 0)
  have h1:=ih (fun j hj=>h j (by omega))
  have h2:=h m (by omega)
  split <;> grind
end Go.Off
namespace Go.Off
structure PF where
 m:Nat
 n:Nat
 a:Nat -> Nat -> Rat
 b:Nat -> Rat
 c:Nat -> Rat
def sgnP (P:PF) (i:Nat) (x:Rat):Rat:=if P.b i < 0 then -x else x
def sdP (P:PF):SD:=⟨P.n,P.m,(List.range P.n).map fun k=>(List.range P.m).map fun i=>sgnP P i (P.a i k),(List.range P.m).map fun i=>sgnP P i (P.b i)⟩
def costsP (P:PF):List Rat:=(List.range P.n).map P.c
def turnsP (P:PF) (l:List Rat):List Rat:=(List.range l.length).map fun i=>sgnP P i (l.getD i 0)
structure SR where
 v:Nat
 X:List Rat
 Y:List Rat
 Ray:List Rat
 bs:List Nat
 rem:Nat
def endR (P:PF) (bs:List Nat) (y:List Rat) (k:Option Nat) (d:List Rat) (rem:Nat):SR :=
 match k with
 | none=>⟨1,spreadL (sdP P) bs (xL (sdP P) bs),turnsP P y,[],bs,rem⟩
 | some k=>⟨3,spreadL (sdP P) bs (xL (sdP P) bs),[],(spreadL (sdP P) bs (scaleL d (-1))).set k 1,bs,rem⟩
def endO (P:PF) (o:RO):SR:=endR P o.bs o.y o.k o.d o.rem
def secondP (P:PF) (rem:Nat) (bs:List Nat):Option SR :=
 if (runL (sdP P) (costsP P) 0 rem bs).err then none else some (endO P (runL (sdP P) (costsP P) 0 rem bs))
def bs0P (P:PF):List Nat:=(List.range P.m).map fun j=>P.n + j
def zerosP (P:PF):List Rat:=List.replicate P.n 0
def solveP (P:PF) (rem:Nat):Option SR :=
 if (runL (sdP P) (zerosP P) 1 rem (bs0P P)).err then none else
 if 0 < dotR (runL (sdP P) (zerosP P) 1 rem (bs0P P)).y (sdP P).b then some ⟨2,[],turnsP P (runL (sdP P) (zerosP P) 1 rem (bs0P P)).y,[],(runL (sdP P) (zerosP P) 1 rem (bs0P P)).bs,(runL (sdP P) (zerosP P) 1 rem (bs0P P)).rem⟩
 else secondP P (runL (sdP P) (zerosP P) 1 rem (bs0P P)).rem (clearTo (sdP P) (runL (sdP P) (zerosP P) 1 rem (bs0P P)).bs P.m)
def colY (P:PF) (y:List Rat) (k:Nat):Rat:=sumR P.m fun i=>lF y i * P.a i k
def rowX (P:PF) (x:List Rat) (i:Nat):Rat:=sumR P.n fun k=>P.a i k * lF x k
def ybP (P:PF) (y:List Rat):Rat:=sumR P.m fun i=>lF y i * P.b i
def cxP (P:PF) (x:List Rat):Rat:=sumR P.n fun k=>P.c k * lF x k
def Feas (P:PF) (x:List Rat):Prop:=x.length = P.n /\ (∀ k,k < P.n -> 0 <= lF x k) /\ ∀ i,i < P.m -> rowX P x i = P.b i
def Prov (P:PF) (r:SR):Prop :=
 (r.v = 1 /\ Feas P r.X /\ r.Y.length = P.m /\ (∀ k,k < P.n -> colY P r.Y k <= P.c k) /\ ybP P r.Y = cxP P r.X /\ r.Ray = []) \/
 (r.v = 2 /\ r.X = [] /\ r.Ray = [] /\ r.Y.length = P.m /\ (∀ k,k < P.n -> colY P r.Y k <= 0) /\ 0 < ybP P r.Y) \/
 (r.v = 3 /\ r.Y = [] /\ Feas P r.X /\ r.Ray.length = P.n /\ (∀ k,k < P.n -> 0 <= lF r.Ray k) /\ (∀ i,i < P.m -> rowX P r.Ray i = 0) /\ cxP P r.Ray < 0)
def Crn (P:PF) (x:List Rat):Prop:=∀ c:Nat -> Rat,(∀ k,k < P.n -> lF x k = 0 -> c k = 0) -> (∀ i,i < P.m -> sumR P.n (fun k=>P.a i k * c k) = 0) -> ∀ k,k < P.n -> c k = 0
theorem sd_m (P:PF):(sdP P).m = P.m:=rfl
theorem sd_n (P:PF):(sdP P).n = P.n:=rfl
theorem sgn_mul (P:PF) (i:Nat) (x:Rat):sgnP P i x = sgnP P i 1 * x:=by unfold sgnP;split <;> grind
theorem sgn_sq (P:PF) (i:Nat):sgnP P i 1 * sgnP P i 1 = 1:=by unfold sgnP;split <;> grind
theorem sgn_b (P:PF) (i:Nat):0 <= sgnP P i (P.b i):=by unfold sgnP;split <;> grind
theorem sd_wf (P:PF):(sdP P).Wf:=by
 refine ⟨by show List.length (List.map _ _) = _;rw [List.length_map,List.length_range];rfl,fun k hk=>?_,by show List.length (List.map _ _) = _;rw [List.length_map,List.length_range];rfl⟩
 show (List.getD (List.map _ _) k []).length = _
 rw [getD_mapR P.n _ k [] hk,List.length_map,List.length_range]
 rfl
theorem sd_col (P:PF) {k i:Nat} (hk:k < P.n) (hi:i < P.m):(colL (sdP P) k).getD i 0 = sgnP P i (P.a i k):=by
 unfold colL
 rw [if_neg (show ¬ (sdP P).n <= k from fun h=>by have:P.n <= k:=h;omega)]
 show (List.getD (List.map _ _) k []).getD i 0 = _
 rw [getD_mapR P.n _ k [] hk,getD_mapR P.m _ i 0 hi]
theorem sd_own (P:PF) {j i:Nat} (hi:i < P.m):(colL (sdP P) (P.n + j)).getD i 0 = if i = j then 1 else 0:=by
 unfold colL
 rw [if_pos (show (sdP P).n <= P.n + j from Nat.le_add_right _ _),show P.n + j - (sdP P).n = j by show P.n + j - P.n = j;omega]
 exact unitL_at P.m j hi
theorem sd_b (P:PF) {i:Nat} (hi:i < P.m):(sdP P).b.getD i 0 = sgnP P i (P.b i):=getD_mapR P.m _ i 0 hi
theorem costs_at (P:PF) {k:Nat} (hk:k < P.n):(costsP P).getD k 0 = P.c k:=getD_mapR P.n P.c k 0 hk
theorem zeros_at (P:PF) (k:Nat):(zerosP P).getD k 0 = 0:=by
 unfold zerosP
 rw [List.getD_eq_getElem?_getD,List.getElem?_replicate]
 split <;> rfl
theorem turns_len (P:PF) (l:List Rat):(turnsP P l).length = l.length:=by unfold turnsP;rw [List.length_map,List.length_range]
theorem turns_at (P:PF) (l:List Rat) {i:Nat} (hi:i < l.length):lF (turnsP P l) i = sgnP P i (lF l i):=getD_mapR l.length _ i 0 hi
theorem colY_turn (P:PF) {y:List Rat} (hl:y.length = P.m) {k:Nat} (hk:k < P.n):colY P (turnsP P y) k = sumR P.m (fun i=>(colL (sdP P) k).getD i 0 * lF y i):=by
 unfold colY
 refine sumR_congr (fun i hi=>?_)
 rw [turns_at P y (by omega),sd_col P hk hi,sgn_mul P i (lF y i),sgn_mul P i (P.a i k)]
 grind
theorem yb_turn (P:PF) {y:List Rat} (hl:y.length = P.m):ybP P (turnsP P y) = sumR P.m (fun i=>(sdP P).b.getD i 0 * lF y i):=by
 unfold ybP
 refine sumR_congr (fun i hi=>?_)
 rw [turns_at P y (by omega),sd_b P hi,sgn_mul P i (lF y i),sgn_mul P i (P.b i)]
 grind
theorem dot_b (P:PF) {y:List Rat} (hl:y.length = P.m):dotR y (sdP P).b = sumR P.m (fun i=>(sdP P).b.getD i 0 * lF y i):=by
 unfold dotR
 rw [hl,(sd_wf P).bl,show (sdP P).m = P.m from rfl,Nat.min_self]
 exact sumR_congr (fun i _=>Rat.mul_comm _ _)
theorem row_of (P:PF) {x:List Rat} {i:Nat} (hi:i < P.m) {q:Rat} (h:sumR P.n (fun v=>(colL (sdP P) v).getD i 0 * lF x v) = sgnP P i q):rowX P x i = q:=by
 have e:sumR P.n (fun v=>(colL (sdP P) v).getD i 0 * lF x v) = sgnP P i 1 * rowX P x i:=by
  unfold rowX
  rw [<- sumR_mull]
  exact sumR_congr (fun v hv=>by rw [sd_col P hv hi,sgn_mul P i (P.a i v),Rat.mul_assoc])
 rw [e,sgn_mul P i q] at h
 have h2:sgnP P i 1 * (sgnP P i 1 * rowX P x i) = sgnP P i 1 * (sgnP P i 1 * q):=by rw [h]
 rw [<- Rat.mul_assoc,<- Rat.mul_assoc,sgn_sq,Rat.one_mul,Rat.one_mul] at h2
 exact h2
theorem price_v {S:SD} {costs:List Rat} {own:Rat} {bs:List Nat} (h:S.Wf) (hb:BOk S bs) {v d:Nat -> Rat} (hd:∀ i,i < S.m -> sumR S.m (fun j=>(colL S (bsF bs j)).getD i 0 * d j) = v i) :
  sumR S.m (fun j=>costL S costs own (bsF bs j) * d j) = sumR S.m (fun i=>v i * lF (yL S costs own bs) i):=by
 have e1:∀ j,j < S.m -> costL S costs own (bsF bs j) * d j = sumR S.m (fun i=>(colL S (bsF bs j)).getD i 0 * d j * lF (yL S costs own bs) i):=fun j hj=>by
  rw [<- y_sol h costs own hb j hj,<- sumR_mul]
  exact sumR_congr (fun i _=>by grind)
 rw [sumR_congr e1,sumR_comm]
 exact sumR_congr (fun i hi=>by rw [sumR_mul,hd i hi])
theorem step_fin_none {S:SD} {costs:List Rat} {own:Rat} {bs:List Nat} {d:List Rat} (h:stepL S costs own bs = .fin none d):enterL S costs (yL S costs own bs) = none /\ d = []:=by
 unfold stepL at h
 split at h
 ·rename_i he;cases h;exact ⟨he,rfl⟩
 ·split at h <;> cases h
theorem step_fin_some {S:SD} {costs:List Rat} {own:Rat} {bs:List Nat} {d:List Rat} {k:Nat} (hw:S.Wf) (hb:BOk S bs) (h:stepL S costs own bs = .fin (some k) d) :
  enterL S costs (yL S costs own bs) = some k /\ d = dL S bs k /\ ∀ j,j < S.m -> lF (dL S bs k) j <= 0:=by
 unfold stepL at h
 split at h
 ·cases h
 ·rename_i k1 he
  split at h
  ·rename_i hl
   cases h
   refine ⟨he,rfl,fun j hj=>?_⟩
   unfold leaveL at hl
   rw [Option.map_eq_none_iff] at hl
   exact leave_none hl j (by rw [x_len hw hb];exact hj)
  ·cases h
theorem sumR_nn' {n:Nat} {f:Nat -> Rat} (h:∀ i,i < n -> 0 <= f i):0 <= sumR n f:=by
 induction n with
 | zero=>exact Rat.le_refl
 | succ n ih =>
  have h1:=ih (fun i hi=>h i (by omega))
  have h2:=h n (by omega)
  show 0 <= sumR n f + f n
  grind
theorem sumR_np {n:Nat} {f:Nat -> Rat} (h:∀ i,i < n -> f i <= 0):sumR n f <= 0:=by
 induction n with
 | zero=>exact Rat.le_refl
 | succ n ih =>
  have h1:=ih (fun i hi=>h i (by omega))
  have h2:=h n (by omega)
  show sumR n f + f n <= 0
  grind
theorem sumR_all0 {n:Nat} {f:Nat -> Rat} (h:∀ i,i < n -> 0 <= f i) (hs:sumR n f <= 0):∀ i,i < n -> f i = 0:=by
 induction n with
 | zero=>intro i hi;omega
 | succ n ih =>
  have h1:0 <= sumR n f:=sumR_nn' (fun i hi=>h i (by omega))
  have h2:=h n (by omega)
  have h3:sumR n f + f n <= 0:=hs
  intro i hi
  by_cases e:i = n
  ·subst e;grind
  ·exact ih (fun i hi=>h i (by omega)) (by grind) i (by omega)
theorem mul_np {x y:Rat} (hx:0 <= x) (hy:y <= 0):x * y <= 0:=by
 have:=Rat.mul_nonneg hx (show 0 <= -y by grind)
 grind
theorem crn_of {P:PF} {bs:List Nat} (hb:BOk (sdP P) bs) (x:List Rat):Crn P (spreadL (sdP P) bs x):=by
 intro c hc hs k hk
 have hz:∀ v,v < P.n -> ¬ InB P.m (bsF bs) v -> c v = 0:=fun v hv hn=>hc v hv (by
  show (spreadL (sdP P) bs x).getD v 0 = 0
  rw [spread_full hb x hv];exact full_out _ hn)
 let c':Nat -> Rat:=fun v=>if v < P.n then c v else 0
 have hf:∀ v,v < P.n + P.m -> fullX P.m (bsF bs) (fun j=>c' (bsF bs j)) v = c' v:=fun v hv=>by
  by_cases h:InB P.m (bsF bs) v
  ·obtain ⟨j,hj,rfl⟩:=h
   exact full_at (fun i j hi hj e=>Indep.inj (A:=fun v r=>(colL (sdP P) v).getD r 0) hb.ind hi hj e) _ hj
  ·rw [full_out _ h]
   show 0 = if v < P.n then c v else 0
   split
   ·rename_i h1;exact (hz v h1 h).symm
   ·rfl
 have h0:=hb.ind (fun j=>c' (bsF bs j)) (fun i hi=>by
  rw [<- sum_full (N:=P.n + P.m) (bs:=bsF bs) (fun j hj=>hb.lt j hj) (fun j=>c' (bsF bs j)) (fun v=>(colL (sdP P) v).getD i 0)]
  have e1:sumR (P.n + P.m) (fun v=>(colL (sdP P) v).getD i 0 * fullX (sdP P).m (bsF bs) (fun j=>c' (bsF bs j)) v) = sumR (P.n + P.m) (fun v=>(colL (sdP P) v).getD i 0 * c' v):=sumR_congr (fun v hv=>by have:=hf v hv;rw [show (sdP P).m = P.m from rfl,this])
  have e2:sumR (P.n + P.m) (fun v=>(colL (sdP P) v).getD i 0 * c' v) = sumR P.n (fun v=>(colL (sdP P) v).getD i 0 * c' v):=sumR_cut P.m (fun v h1 _=>by
   show (colL (sdP P) v).getD i 0 * (if v < P.n then c v else 0) = 0
   rw [if_neg (by omega),Rat.mul_zero])
  have e3:sumR P.n (fun v=>(colL (sdP P) v).getD i 0 * c' v) = sumR P.n (fun v=>sgnP P i 1 * (P.a i v * c v)):=sumR_congr (fun v hv=>by
   show (colL (sdP P) v).getD i 0 * (if v < P.n then c v else 0) = _
   rw [sd_col P hv hi,sgn_mul P i (P.a i v),if_pos hv,Rat.mul_assoc])
  rw [e1,e2,e3,sumR_mull,hs i hi,Rat.mul_zero])
 by_cases h:InB P.m (bsF bs) k
 ·obtain ⟨j,hj,rfl⟩:=h
  have:=h0 j hj
  have e:c' (bsF bs j) = c (bsF bs j):=if_pos hk
  rw [<- e];exact this
 ·exact hz k hk h
theorem feas_x {P:PF} {bs:List Nat} (hb:COk (sdP P) bs) (hz:Zer (sdP P) bs):Feas P (spreadL (sdP P) bs (xL (sdP P) bs)):=by
 refine ⟨spreadL_len _ _ _,fun k hk=>?_,fun i hi=>row_of P hi ?_⟩
 ·show 0 <= (spreadL _ _ _).getD k 0
  rw [spread_full hb.toBOk _ hk]
  exact full_nn hb.pos k
 ·rw [show P.n = (sdP P).n from rfl]
  rw [show (fun v=>(colL (sdP P) v).getD i 0 * lF (spreadL (sdP P) bs (xL (sdP P) bs)) v) = (fun v=>(colL (sdP P) v).getD i 0 * (spreadL (sdP P) bs (xL (sdP P) bs)).getD v 0) from rfl,sum_spread hb.toBOk _ hz (fun v=>(colL (sdP P) v).getD i 0),x_sol (sd_wf P) hb.toBOk i hi,sd_b P hi]
theorem cost_low (P:PF) {v:Nat} (h:v < P.n) (own:Rat):costL (sdP P) (costsP P) own v = P.c v:=by
 unfold costL;rw [sd_n,if_neg (show ¬ P.n <= v by omega),costs_at P h]
theorem cx_spread {P:PF} {bs:List Nat} (hb:BOk (sdP P) bs) (l:List Rat) (hz:∀ j,j < P.m -> P.n <= bsF bs j -> lF l j = 0) (own:Rat):cxP P (spreadL (sdP P) bs l) = sumR P.m (fun j=>costL (sdP P) (costsP P) own (bsF bs j) * lF l j):=by
 have h:=sum_spread hb l hz (costL (sdP P) (costsP P) own)
 rw [sd_m,sd_n] at h
 rw [<- h]
 unfold cxP
 exact sumR_congr (fun v hv=>by rw [cost_low P hv];rfl)
theorem prov_end {P:PF} {bs:List Nat} (hb:COk (sdP P) bs) (hc:Calm (sdP P) bs) {k:Option Nat} {d:List Rat} (hs:stepL (sdP P) (costsP P) 0 bs = .fin k d) (rem:Nat) :
  Prov P (endR P bs (yL (sdP P) (costsP P) 0 bs) k d rem):=by
 have hw:=sd_wf P
 have hz:=hc.zer hw hb.toBOk
 have hyl:=y_len hw (costsP P) 0 hb.toBOk
 cases k with
 | none =>
  obtain ⟨he,_⟩:=step_fin_none hs
  have hn:=enter_none hw hb.toBOk he
  dsimp only [endR]
  refine .inl ⟨rfl,feas_x hb hz,by rw [turns_len];exact hyl,fun k hk=>?_,?_,rfl⟩
  ·rw [colY_turn P hyl hk]
   have h1:0 <= costL (sdP P) (costsP P) 0 k - sumR P.m (fun i=>(colL (sdP P) k).getD i 0 * lF (yL (sdP P) (costsP P) 0 bs) i):=hn k hk
   rw [cost_low P hk] at h1
   grind
  ·rw [yb_turn P hyl,cx_spread hb.toBOk _ hz 0]
   exact (price_v hw hb.toBOk (x_sol hw hb.toBOk)).symm
 | some k =>
  obtain ⟨he,rfl,hd⟩:=step_fin_some hw hb.toBOk hs
  obtain ⟨hk,hr,_⟩:=enter_some hw hb.toBOk he
  have hk':k < P.n:=hk
  have hds:=d_sol hw hb.toBOk hk
  have hdz:∀ j,j < (sdP P).m -> (sdP P).n <= bsF bs j -> lF (scaleL (dL (sdP P) bs k) (-1)) j = 0:=fun j hj hn=>by
   show (scaleL _ _).getD j 0 = 0
   rw [scaleL_get]
   have:=hc.dz hw hb.toBOk hk hj hn
   show lF (dL (sdP P) bs k) j * -1 = 0
   rw [this,Rat.zero_mul]
  have hkout:¬ InB P.m (bsF bs) k:=fun h=>by
   have:=(hb.dic hw (costsP P) 0).red_zero h
   rw [this] at hr
   exact absurd hr (by decide)
  have hset:∀ v,v < P.n -> lF ((spreadL (sdP P) bs (scaleL (dL (sdP P) bs k) (-1))).set k 1) v = (if k = v then 1 else 0) + (spreadL (sdP P) bs (scaleL (dL (sdP P) bs k) (-1))).getD v 0:=fun v hv=>by
   show (List.set _ _ _).getD v 0 = _
   rw [getD_set0 _ _ _ _ _ (by rw [spreadL_len];exact hk)]
   by_cases e:v = k
   ·subst e;rw [if_pos rfl,if_pos rfl,spread_full hb.toBOk _ hk,sd_m,full_out _ hkout,Rat.add_zero]
   ·rw [if_neg e,if_neg (fun h=>e h.symm),Rat.zero_add]
  have hsum:∀ g:Nat -> Rat,sumR P.n (fun v=>g v * lF ((spreadL (sdP P) bs (scaleL (dL (sdP P) bs k) (-1))).set k 1) v) = g k + sumR P.m (fun j=>g (bsF bs j) * lF (dL (sdP P) bs k) j) * (-1):=fun g=>by
   rw [sumR_congr (g:=fun v=>(if k = v then g v else 0) + g v * (spreadL (sdP P) bs (scaleL (dL (sdP P) bs k) (-1))).getD v 0) (fun v hv=>by rw [hset v hv];split <;> grind),sumR_add,sumR_single,if_pos hk']
   have:=sum_spread hb.toBOk (scaleL (dL (sdP P) bs k) (-1)) hdz g
   rw [show P.n = (sdP P).n from rfl,this,<- sumR_mul]
   congr 1
   refine sumR_congr (fun j _=>?_)
   show g (bsF bs j) * (scaleL _ _).getD j 0 = _
   rw [scaleL_get]
   show g (bsF bs j) * (lF (dL (sdP P) bs k) j * -1) = _
   grind
  dsimp only [endR]
  refine .inr (.inr ⟨rfl,rfl,feas_x hb hz,by rw [List.length_set];exact spreadL_len _ _ _,fun v hv=>?_,fun i hi=>row_of P hi ?_,?_⟩)
  ·rw [hset v hv,spread_full hb.toBOk _ hv]
   have:0 <= fullX (sdP P).m (bsF bs) (lF (scaleL (dL (sdP P) bs k) (-1))) v:=full_nn (fun j hj=>by
    show 0 <= (scaleL _ _).getD j 0
    rw [scaleL_get]
    have:=hd j hj
    show 0 <= lF (dL (sdP P) bs k) j * -1
    grind) v
   split <;> grind
  ·rw [hsum (fun v=>(colL (sdP P) v).getD i 0)]
   have:=hds i hi
   show (colL (sdP P) k).getD i 0 + sumR (sdP P).m (fun j=>(colL (sdP P) (bsF bs j)).getD i 0 * lF (dL (sdP P) bs k) j) * (-1) = _
   rw [this,sgn_mul,Rat.mul_zero]
   grind
  ·have h1:=hsum P.c
   have h2:cxP P ((spreadL (sdP P) bs (scaleL (dL (sdP P) bs k) (-1))).set k 1) = _:=h1
   rw [h2]
   have h3:sumR P.m (fun j=>P.c (bsF bs j) * lF (dL (sdP P) bs k) j) = sumR (sdP P).m (fun j=>costL (sdP P) (costsP P) 0 (bsF bs j) * lF (dL (sdP P) bs k) j):=sumR_congr (fun j hj=>by
    by_cases hn:bsF bs j < P.n
    ·rw [cost_low P hn]
    ·have:=hc.dz hw hb.toBOk hk hj (show P.n <= bsF bs j by omega)
     rw [this,Rat.mul_zero,Rat.mul_zero])
   rw [h3,price_v hw hb.toBOk hds]
   have h4:costL (sdP P) (costsP P) 0 k - sumR P.m (fun i=>(colL (sdP P) k).getD i 0 * lF (yL (sdP P) (costsP P) 0 bs) i) < 0:=hr
   rw [cost_low P hk'] at h4
   show P.c k + sumR P.m (fun i=>(colL (sdP P) k).getD i 0 * lF (yL (sdP P) (costsP P) 0 bs) i) * (-1) < 0
   grind
def chP (P:PF):Nat:=chN (P.n + P.m) P.m
theorem second_main {P:PF} {bs:List Nat} (hb:COk (sdP P) bs) (hc:Calm (sdP P) bs) :
  ∃ r T,T < chP P /\ Prov P r /\ r.v ≠ 2 /\ Crn P r.X /\ r.bs.length = P.m /\ ∀ rem,secondP P rem bs = if T <= rem then some { r with rem:=rem - T } else none:=by
 have hw:=sd_wf P
 obtain ⟨h1,h2⟩:=run_short hw (costs:=costsP P) (own:=0) hb (rem:=chP P) (Nat.le_refl _)
 obtain ⟨g1,g2,g3,_,g5⟩:=run_spec hw (costs:=costsP P) (own:=0) (Calm (sdP P)) (fun bs k a hb hj hs=>hj.step hw hb hs) (chP P) bs hb hc
 obtain ⟨m1,m2,m3⟩:=run_more (S:=sdP P) (costs:=costsP P) (own:=0) (chP P) bs h1
 rcases g5 with ⟨_,g6,g7⟩ | ⟨g6,_⟩
 ·have hp:=prov_end g1 g2 g6 0
  have h2':chP P - (runL (sdP P) (costsP P) 0 (chP P) bs).rem + 1 <= chP P:=h2
  generalize hT:chP P - (runL (sdP P) (costsP P) 0 (chP P) bs).rem = T at m2 m3 h2'
  generalize hO:runL (sdP P) (costsP P) 0 (chP P) bs = O at *
  rw [<- g7] at hp
  refine ⟨endR P O.bs O.y O.k O.d 0,T,by omega,hp,?_,?_,?_,fun rem=>?_⟩
  ·unfold endR;cases O.k <;> simp
  ·have:=crn_of g1.toBOk (xL (sdP P) O.bs)
   unfold endR
   cases O.k <;> exact this
  ·have:O.bs.length = P.m:=g1.len
   unfold endR
   cases O.k <;> exact this
  ·unfold secondP
   by_cases hle:T <= rem
   ·rw [if_pos hle,m2 rem hle]
    dsimp only [endO]
    rw [h1]
    unfold endR
    cases O.k <;> rfl
   ·rw [if_neg hle,m3 rem (by omega)]
    rfl
 ·rw [h1] at g6;cases g6
theorem bs0_at (P:PF) {j:Nat} (hj:j < P.m):bsF (bs0P P) j = P.n + j:=getD_mapR P.m _ j 0 hj
theorem cok0 (P:PF):COk (sdP P) (bs0P P):=by
 have hB:BOk (sdP P) (bs0P P):=by
  refine ⟨by unfold bs0P;rw [List.length_map,List.length_range];rfl,fun j hj=>?_,fun c hc j hj=>?_⟩
  ·have:bsF (bs0P P) j = P.n + j:=bs0_at P hj
   show bsF (bs0P P) j < P.n + P.m
   rw [this]
   have:j < P.m:=hj
   omega
  ·have:=hc j hj
   rw [sumR_congr (g:=fun i=>if j = i then c i else 0) (fun i hi=>by
    show (colL (sdP P) (bsF (bs0P P) i)).getD j 0 * c i = _
    rw [bs0_at P hi,sd_own P hj]
    by_cases e:j = i
    ·rw [if_pos e,if_pos e,Rat.one_mul]
    ·rw [if_neg e,if_neg e,Rat.zero_mul]),sumR_single,if_pos hj] at this
   exact this
 refine ⟨hB,fun j hj=>?_⟩
 have:=x_sol (sd_wf P) hB j hj
 rw [sumR_congr (g:=fun i=>if j = i then lF (xL (sdP P) (bs0P P)) i else 0) (fun i hi=>by
  rw [bs0_at P hi,sd_own P hj]
  by_cases e:j = i
  ·rw [if_pos e,if_pos e,Rat.one_mul]
  ·rw [if_neg e,if_neg e,Rat.zero_mul]),sumR_single,if_pos hj,sd_b P hj] at this
 rw [this]
 exact sgn_b P j
theorem cost01 (P:PF) (v:Nat):costL (sdP P) (zerosP P) 1 v = if P.n <= v then 1 else 0:=by
 unfold costL
 show (if P.n <= v then _ else _) = _
 split
 ·rfl
 ·exact zeros_at P v
theorem cost01_nn (P:PF) (v:Nat):0 <= costL (sdP P) (zerosP P) 1 v:=by rw [cost01];split <;> decide
theorem first_none {P:PF} {bs:List Nat} (hb:COk (sdP P) bs) {k:Option Nat} {d:List Rat} (hs:stepL (sdP P) (zerosP P) 1 bs = .fin k d):k = none:=by
 cases k with
 | none=>rfl
 | some k =>
  exfalso
  have hw:=sd_wf P
  obtain ⟨he,rfl,hd⟩:=step_fin_some hw hb.toBOk hs
  obtain ⟨hk,hr,_⟩:=enter_some hw hb.toBOk he
  have h1:costL (sdP P) (zerosP P) 1 k - sumR P.m (fun i=>(colL (sdP P) k).getD i 0 * lF (yL (sdP P) (zerosP P) 1 bs) i) < 0:=hr
  have h2:=price_v (costs:=zerosP P) (own:=1) hw hb.toBOk (d_sol hw hb.toBOk hk)
  have h3:sumR (sdP P).m (fun j=>costL (sdP P) (zerosP P) 1 (bsF bs j) * lF (dL (sdP P) bs k) j) <= 0:=sumR_np (fun j hj=>mul_np (cost01_nn P _) (hd j hj))
  have h4:=cost01_nn P k
  have h5:sumR P.m (fun i=>(colL (sdP P) k).getD i 0 * lF (yL (sdP P) (zerosP P) 1 bs) i) <= 0:=by
   have:sumR (sdP P).m (fun i=>(colL (sdP P) k).getD i 0 * lF (yL (sdP P) (zerosP P) 1 bs) i) <= 0:=by rw [<- h2];exact h3
   exact this
  grind
theorem solve_main (P:PF):∃ r T,T + 1 < 2 * chP P + 1 /\ Prov P r /\ (r.v = 2 \/ Crn P r.X) /\ r.bs.length = P.m /\ ∀ rem,solveP P rem = if T <= rem then some { r with rem:=rem - T } else none:=by
 have hw:=sd_wf P
 have hb:=cok0 P
 obtain ⟨h1,h2⟩:=run_short hw (costs:=zerosP P) (own:=1) hb (rem:=chP P) (Nat.le_refl _)
 obtain ⟨g1,_,g3,_,g5⟩:=run_spec hw (costs:=zerosP P) (own:=1) (fun _=>True) (fun _ _ _ _ _ _=>trivial) (chP P) (bs0P P) hb trivial
 obtain ⟨m1,m2,m3⟩:=run_more (S:=sdP P) (costs:=zerosP P) (own:=1) (chP P) (bs0P P) h1
 rcases g5 with ⟨_,g6,g7⟩ | ⟨g6,_⟩
 ·have h2':chP P - (runL (sdP P) (zerosP P) 1 (chP P) (bs0P P)).rem + 1 <= chP P:=h2
  generalize hT:chP P - (runL (sdP P) (zerosP P) 1 (chP P) (bs0P P)).rem = T at m2 m3 h2'
  have hk:=first_none g1 g6
  rw [hk] at g6
  obtain ⟨he,_⟩:=step_fin_none g6
  have hn:=enter_none hw g1.toBOk he
  generalize hO:runL (sdP P) (zerosP P) 1 (chP P) (bs0P P) = O at *
  have hyl:O.y.length = P.m:=by rw [g7];exact y_len hw _ _ g1.toBOk
  have hcost:sumR (sdP P).m (fun j=>costL (sdP P) (zerosP P) 1 (bsF O.bs j) * lF (xL (sdP P) O.bs) j) = dotR O.y (sdP P).b:=by
   rw [dot_b P hyl,price_v hw g1.toBOk (x_sol hw g1.toBOk),g7]
   rfl
  by_cases hpos:0 < dotR O.y (sdP P).b
  ·refine ⟨⟨2,[],turnsP P O.y,[],O.bs,0⟩,T,by omega,.inr (.inl ⟨rfl,rfl,rfl,by rw [turns_len];exact hyl,fun k hk=>?_,?_⟩),.inl rfl,g1.len,fun rem=>?_⟩
   ·rw [colY_turn P hyl hk,g7]
    have h3:0 <= costL (sdP P) (zerosP P) 1 k - sumR P.m (fun i=>(colL (sdP P) k).getD i 0 * lF (yL (sdP P) (zerosP P) 1 O.bs) i):=hn k hk
    rw [cost01,if_neg (by omega)] at h3
    grind
   ·rw [yb_turn P hyl,<- dot_b P hyl];exact hpos
   ·unfold solveP
    by_cases hle:T <= rem
    ·rw [if_pos hle,m2 rem hle]
     dsimp only
     rw [h1,if_pos hpos]
     rfl
    ·rw [if_neg hle,m3 rem (by omega)]
     rfl
  ·have hz:Zer (sdP P) O.bs:=fun j hj hn=>by
    have hs:sumR (sdP P).m (fun j=>costL (sdP P) (zerosP P) 1 (bsF O.bs j) * lF (xL (sdP P) O.bs) j) <= 0:=by rw [hcost];exact Rat.not_lt.1 hpos
    have:=sumR_all0 (fun j hj=>Rat.mul_nonneg (cost01_nn P _) (g1.pos j hj)) hs j hj
    rw [cost01,if_pos (show P.n <= bsF O.bs j from hn),Rat.one_mul] at this
    exact this
   obtain ⟨c1,c2,c3⟩:=clear_spec hw g1 hz P.m (Nat.le_refl _)
   have hcalm:=calm_of hw c1 c2 c3
   obtain ⟨r,T2,t1,t2,t3,t4,t5,t6⟩:=second_main c1 hcalm
   refine ⟨r,T + T2,by omega,t2,.inr t4,t5,fun rem=>?_⟩
   unfold solveP
   by_cases hle:T <= rem
   ·rw [m2 rem hle]
    dsimp only
    rw [h1,if_neg hpos,t6]
    by_cases h3:T2 <= rem - T
    ·have h4:T + T2 <= rem:=Nat.add_le_of_le_sub' hle h3
     rw [if_pos h3,if_pos h4,Nat.sub_sub]
     rfl
    ·have h4:¬ T + T2 <= rem:=fun h=>h3 (Nat.le_sub_of_add_le' h)
     rw [if_neg h3,if_neg h4]
     rfl
   ·rw [if_neg (fun h=>hle (Nat.le_trans (Nat.le_add_right _ _) h)),m3 rem (Nat.lt_of_not_le hle)]
    rfl
 ·rw [h1] at g6;cases g6
end Go.Off
