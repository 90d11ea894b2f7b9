/- The abstract memory: code, and what it comes to. -/
import Derived.Scope
import Derived.LoopNIn
import Derived.BigFrameIn
import Derived.Test.YtncgbjhojbnecaaA1
import Derived.Test.YtncgbjhojbnecaaA3
set_option linter.unusedSimpArgs false
set_option linter.unusedVariables false
set_option linter.unnecessarySimpa false
namespace Go.Am
open Go.RowKit
variable {GL:Glb}
variable {P:Program} {opn:List FuncId} {w w':World} {M0:Nat -> Prop} {h h0 h1 h2 h':List Blk} {hd hd':Nat -> Value} {B0:Nat} {bad bad':Nat -> Prop} {X:Ctx} {st st':St} {a:Act} {t t' t2:List AV}
 {ops:Array Oper} {cos:List CO} {rd:Option Nat} {n n0:Nat}
inductive CC where
 | skip
 | reg (cos:List CO)
 | regn (g:Bool) (cos:List CO)
 | seq (x y:CC)
 | cond (c:Operand) (x y:CC)
 | block (id:Nat) (c:CC)
 | scope (c:CC)
 | loop (c:CC)
 | rf (g:Operand) (ps:List Tmp) (ms:List (Tmp × Tmp)) (body:CC)
 | rfb (g:Operand) (ps:List Tmp) (d:Tmp) (ty:TypeId) (n:Nat) (s:Tmp) (body:CC)
 | exit (id:Nat)
 | ret
def compOne (P:Program) (ops:Array Oper) (o:Oper):Option CO :=
 match cop P o with
 | none=>none
 | some c=>match o.guard with
  | none=>some ⟨o.dst,none,c⟩
  | some (j,want)=>match (ops[j]?).bind (·.dst) with
   | some t=>some ⟨o.dst,some (t,want),c⟩
   | none=>none
def moveOp (o:Oper):Option (Tmp × Tmp) :=
 match o.guard,o.dst,o.op with
 | none,some d,.move (.tmp s)=>some (d,s)
 | none,some d,.assign (.tmp s)=>some (d,s)
 | _,_,_=>none
def moveCode:Code -> Option (List (Tmp × Tmp))
 | .skip=>some []
 | .region _ ops false=>ops.toList.mapM moveOp
 | .seq x y=>match moveCode x,moveCode y with | some a,some b=>some (a ++ b) | _,_=>none
 | _=>none
def boxOps (P:Program) (o1 o2:Oper):Option (Tmp × TypeId × Nat × Tmp) :=
 match o1.guard,o1.dst,o1.op,o2.guard,o2.dst,o2.op with
 | none,some d,.alloc t,none,none,.store t' (.tmp d') (.tmp s) =>
  match zeroT P t,szOf P t with
  | some zs,some n=>if d' = d /\ t' = t /\ zs.length = n /\ s ≠ d then some (d,t,n,s) else none
  | _,_=>none
 | _,_,_,_,_,_=>none
def boxCode (P:Program):Code -> Option (Tmp × TypeId × Nat × Tmp)
 | .region _ ops false=>match ops.toList with | [o1,o2]=>boxOps P o1 o2 | _=>none
 | _=>none
def varyOp (nf:Bool) (keep:List Operand -> Bool):COp -> COp
 | .slice e x lo hi mx=>.cutc e x lo hi mx
 | .mkrow ty e ps=>if ps.isEmpty || keep ps then .mkrow ty e ps else .mkrowc e ps
 | .new ty zs=>if nf then .fill ty zs else .new ty zs
 | c=>c
def isNew (c:CO):Bool:=match c.op with | .new ..=>true | _=>false
def isApp (c:CO):Bool:=match c.op with | .append ..=>true | _=>false
def fedApp (cos:List CO) (ps:List Operand):Bool:=cos.any fun c=>isApp c && ps.any fun p=>match p,c.dst with | .tmp t,some d=>t == d | _,_=>false
def varyCos (cos:List CO):List CO:=cos.map fun c=>⟨c.dst,c.guard,varyOp ((cos.filter isNew).length == 1) (fedApp cos) c.op⟩
def varyCos2 (cos:List CO):List CO:=cos.map fun c=>match c.op with
 | .make _ e b zs l x=>⟨c.dst,c.guard,.makec e b zs l x⟩
 | o=>⟨c.dst,c.guard,varyOp ((cos.filter isNew).length == 1) (fedApp cos) o⟩
def ordOf (A:List (List Nat)) (cos:List CO) (n:Nat):List Nat :=
 let apps:=(List.range n).filter fun i=>match cos[i]? with | some c=>isApp c | none=>false
 let a:=apps.foldl (fun acc i=>acc ++ ((List.range n).filter fun j=>(j == i || (A.getD i []).contains j) && !acc.contains j)) []
 a ++ (List.range n).filter fun j=>!a.contains j
def regCC (P:Program) (opn:List FuncId) (ops:Array Oper) (drawn:Bool):Option CC :=
 match ops.toList.mapM (compOne P ops) with
 | some cos=>if !drawn || regionOk opn ops cos then some (.reg cos) else
   if regionOkV opn ops (varyCos cos) (ancsGo ops.toList []) (List.range ops.size) then some (.regn (anyFill (varyCos cos)) ((List.range ops.size).filterMap ((varyCos cos)[·]?))) else
   if regionOkV opn ops (varyCos cos) (ancsGo ops.toList []) (ordOf (ancsGo ops.toList []) cos ops.size) then some (.regn (anyFill (varyCos cos)) ((ordOf (ancsGo ops.toList []) cos ops.size).filterMap ((varyCos cos)[·]?))) else
   if regionOkV opn ops (varyCos2 cos) (ancsGo ops.toList []) (ordOf (ancsGo ops.toList []) cos ops.size) then some (.regn (anyFill (varyCos2 cos)) ((ordOf (ancsGo ops.toList []) cos ops.size).filterMap ((varyCos2 cos)[·]?))) else none
 | none=>none
theorem regCC_kind {ops:Array Oper} {d:Bool} {cc:CC} (h:regCC P opn ops d = some cc):(∃ cos,cc = .reg cos) \/ ∃ g cos,cc = .regn g cos:=by
 unfold regCC at h
 split at h
 ·split at h
  ·cases h;exact .inl ⟨_,rfl⟩
  ·split at h
   ·cases h;exact .inr ⟨_,_,rfl⟩
   ·split at h
    ·cases h;exact .inr ⟨_,_,rfl⟩
    ·split at h
     ·cases h;exact .inr ⟨_,_,rfl⟩
     ·cases h
 ·cases h
def ccode (P:Program) (opn:List FuncId):Code -> Option CC
 | .skip=>some .skip
 | .region _ ops drawn=>regCC P opn ops drawn
 | .seq x y=>match ccode P opn x,ccode P opn y with | some a,some b=>some (.seq a b) | _,_=>none
 | .cond c x y=>match ccode P opn x,ccode P opn y with | some a,some b=>some (.cond c a b) | _,_=>none
 | .block id c=>(ccode P opn c).map (.block id)
 | .scope c=>(ccode P opn c).map .scope
 | .label _=>some .skip
 | .loop c=>(ccode P opn c).map .loop
 | .rangeFunc g ps a b=>match moveCode a,boxCode P a,ccode P opn b with
  | some a,_,some b=>some (.rf g ps.toList a b)
  | none,some (d,t,m,s),some b=>some (.rfb g ps.toList d t m s b)
  | _,_,_=>none
 | .exit id=>some (.exit id)
 | .ret=>some .ret
 | _=>none
theorem mapM_at {α β:Type} {f:α -> Option β}:∀ {l:List α} {l':List β},l.mapM f = some l' -> l'.length = l.length /\ ∀ (i:Nat) (a:α) (b:β),l[i]? = some a -> l'[i]? = some b -> f a = some b
 | [],l',h=>by simp at h;subst h;exact ⟨rfl,fun i a b h=>by simp at h⟩
 | a :: l,l',h=>by
  rw [List.mapM_cons] at h
  cases hf:f a with
  | none=>simp [hf] at h
  | some b =>
   cases hm:l.mapM f with
   | none=>simp [hf,hm] at h
   | some bs =>
    simp [hf,hm] at h
    subst h
    obtain ⟨h1,h2⟩:=mapM_at hm
    refine ⟨by simp [h1],fun i x y hx hy=>?_⟩
    cases i with
    | zero=>simp at hx hy;subst hx;subst hy;exact hf
    | succ i=>simp at hx hy;exact h2 i x y hx hy
theorem compOne_ok {o:Oper} {co:CO} (h:compOne P ops o = some co):compiled P ops o co:=by
 unfold compOne at h
 split at h
 ·cases h
 ·rename_i c hc
  split at h
  ·rename_i hg
   simp only [Option.some.injEq] at h
   subst h
   refine ⟨rfl,hc,?_⟩
   rw [hg]
  ·rename_i j want hg
   split at h
   ·rename_i t ht
    simp only [Option.some.injEq] at h
    subst h
    refine ⟨rfl,hc,?_⟩
    rw [hg]
    exact ⟨t,ht,rfl⟩
   ·cases h
theorem compAll_ok (h:ops.toList.mapM (compOne P ops) = some cos):allCompiled P ops cos:=by
 obtain ⟨h1,h2⟩:=mapM_at h
 exact ⟨by simpa using h1,fun i o co ho hco=>compOne_ok (h2 i o co (by simpa using ho) hco)⟩
def AWp [Glb] (P:Program) (opn:List FuncId) (n0:Nat) (cc:CC) (Q:Exit -> St -> Prop) (st:St):Prop :=
 ∀ code,ccode P opn code = some cc -> ∀ (X:Ctx) (n:Nat) (hd:Nat -> Value) (a:Act) (w:World),X.h0.length = n0 -> Rel X st hd a w ->
  code.wpIn (Wd X.rd) n P (fun e a' w'=>∃ st' hd',Q e st' /\ Rel X st' hd' a' w') a w
theorem AWp.mono {cc:CC} {Q Q':Exit -> St -> Prop} (h:AWp P opn n0 cc Q st) (hq:∀ e s,Q e s -> Q' e s):AWp P opn n0 cc Q' st :=
 fun code hc X n hd a w hX r=>wpIn_mono (h code hc X n hd a w hX r) (fun e a w ⟨s,hd',q,r⟩=>⟨s,hd',hq e s q,r⟩)
def iaddrAV (h:List Blk) (e:Nat) (arr:Option Nat) (x:AV) (j:Int):Option AV :=
 match arr,x with
 | none,.one (.own b ver) =>
  match h[b]? with
  | some k=>if ver = k.ver /\ k.e = e /\ 0 <= j /\ j < k.els.length then some (.one (.ptr b ver j.toNat 0)) else none
  | none=>none
 | none,.one (.c (.sl e' l))=>if e' = e /\ 0 <= j then (match l[j.toNat]? with | some r=>some (.one (.iptr r)) | none=>none) else none
 | none,.one (.slx e' l)=>if e' = e /\ 0 <= j then (match l[j.toNat]? with | some r=>some (.one (.iptr r)) | none=>none) else none
 | some n,.one (.ptr b ver i' off)=>match h[b]? with | some k=>if ver = k.ver /\ 0 < k.e /\ 0 <= j /\ j < n then some (.one (.ptr b ver i' (off + j.toNat * e))) else none | none=>none
 | some n,.one (.iptr l)=>if 0 <= j /\ j < n then some (.one (.iptr (l.drop (j.toNat * e)))) else none
 | _,_=>none
def cutAV (e:Nat) (x:AV) (lo hi:Option AV):Option AV :=
 match x with
 | .one (.c (.sl e' l))=>if e' = e then (bound l.length l.length hi).bind fun h=>(bound h 0 lo).map fun lw=>.one (.c (.sl e ((l.take h).drop lw))) else none
 | .one (.c (.val (.slice none 0 0)))=>(bound 0 0 hi).bind fun h=>(bound 0 0 lo).map fun _=>.one (.c (.val (.slice none 0 0)))
 | _=>none
theorem cutc_cut {e:Nat} {x:AV} {lo hi:Option AV}:cutcAV e x lo hi none = cutAV e x lo hi:=by
 unfold cutcAV cutAV
 split
 ·rfl
 ·simp only [Option.isNone_none,if_true]
 ·rename_i h1 h2
  split
  ·exact (h1 _ _ rfl).elim
  ·exact (h2 rfl).elim
  ·rfl
def cev (st:St):COp -> Option (AV × List Blk)
 | .iaddr e arr x i=>match (st.ev i).int? with | some p=>(iaddrAV st.h e arr (st.ev x) p.2).map fun v=>(v,st.h) | none=>none
 | .slice e x lo hi none=>match cutAV e (st.ev x) (lo.map st.ev) (hi.map st.ev) with | some v=>some (v,st.h) | none=>cstep st (.slice e x lo hi none)
 | .cutc e x lo hi none=>(cutAV e (st.ev x) (lo.map st.ev) (hi.map st.ev)).map fun v=>(v,st.h)
 | op=>cstep st op
theorem cev_eq (st:St) (op:COp):cev st op = cstep st op:=by
 cases op with
 | iaddr e arr x i =>
  simp only [cev,cstep]
  cases hi:(st.ev i).int? with
  | none=>rfl
  | some p =>
   simp only
   unfold iaddrAV
   split
   ·rename_i b ver hx
    simp only [hx]
    cases st.h[b]? with
    | none=>rfl
    | some k=>simp only;split <;> rfl
   ·rename_i e' l hx
    simp only [hx]
    split
    ·cases l[p.2.toNat]? <;> rfl
    ·rfl
   ·rename_i e' l hx
    simp only [hx]
    split
    ·cases l[p.2.toNat]? <;> rfl
    ·rfl
   ·rename_i n b ver i' off hx
    simp only [hx]
    cases st.h[b]? with
    | none=>rfl
    | some k=>simp only;split <;> rfl
   ·rename_i n l hx
    simp only [hx]
    split <;> rfl
   ·rename_i h1 h2 h3 h4 h5
    simp only [Option.map_none]
 | cutc e x lo hi mx =>
  cases mx with
  | some m=>rfl
  | none=>simp only [cev,cstep,Option.map_none,cutc_cut]
 | slice e x lo hi mx =>
  cases mx with
  | some m=>rfl
  | none =>
   simp only [cev]
   cases hc:cutAV e (st.ev x) (lo.map st.ev) (hi.map st.ev) with
   | none=>rfl
   | some v =>
    unfold cutAV at hc
    simp only [cstep]
    split at hc
    ·rename_i e' l hx
     simp only [hx]
     split at hc
     ·rename_i he
      rw [if_pos he]
      simp only [Option.bind_eq_some_iff,Option.map_eq_some_iff] at hc
      obtain ⟨h,hh,lw,hlw,rfl⟩:=hc
      simp only [hh,hlw,Option.bind_some,Option.map_some]
     ·cases hc
    ·rename_i hx
     simp only [hx,Option.isNone_none,if_true]
     simp only [Option.bind_eq_some_iff,Option.map_eq_some_iff] at hc
     obtain ⟨h,hh,lw,hlw,rfl⟩:=hc
     simp only [hh,Option.bind_some]
     have:h = 0:=by
      unfold bound at hh
      split at hh
      ·simpa using hh.symm
      ·split at hh
       ·split at hh
        ·simp only [Option.some.injEq] at hh;omega
        ·cases hh
       ·cases hh
     subst this
     simp only [hlw,Option.map_some]
    ·cases hc
 | _=>rfl
def evalOp1 [Glb] (P:Program) (opn:List FuncId) (st:St) (op:COp) (K:AV -> List Blk -> Prop):Prop :=
 match op with
 | .callf f args=>∃ av h',OpV P opn st.t st.h (.callf f args) av h' /\ K av h'
 | op=>match cev st op with | some p=>K p.1 p.2 | none=>False
def evalOps [Glb] (P:Program) (opn:List FuncId):List CO -> St -> (St -> Prop) -> Prop
 | [],st,K=>K st
 | o :: os,st,K =>
  match o.guard with
  | none =>
   match o.op with
   | .callf f args=>∃ av h',OpV P opn st.t st.h (.callf f args) av h' /\ evalOps P opn os ⟨putT st.t o.dst av,h'⟩ K
   | op=>match cev st op with | some p=>evalOps P opn os ⟨putT st.t o.dst p.1,p.2⟩ K | none=>False
  | some (x,want) =>
   match guardWant st x want with
   | none=>False
   | some g=>if g = true then
     match o.op with
     | .callf f args=>∃ av h',OpV P opn st.t st.h (.callf f args) av h' /\ evalOps P opn os ⟨putT st.t o.dst av,h'⟩ K
     | op=>match cev st op with | some p=>evalOps P opn os ⟨putT st.t o.dst p.1,p.2⟩ K | none=>False
    else evalOps P opn os ⟨putT st.t o.dst (.tup []),st.h⟩ K
theorem evalOp1_ok {op:COp} {K:AV -> List Blk -> Prop} (h:evalOp1 P opn st op K):∃ av h',OpV P opn st.t st.h op av h' /\ K av h':=by
 cases op with
 | callf f args=>exact h
 | _ =>
  simp only [evalOp1,cev_eq] at h
  split at h
  ·rename_i p hs
   exact ⟨p.1,p.2,hs,h⟩
  ·exact h.elim
theorem evalOps_cons {o:CO} {os:List CO} {K:St -> Prop}:evalOps P opn (o :: os) st K = (match o.guard with
  | none=>evalOp1 P opn st o.op (fun av h'=>evalOps P opn os ⟨putT st.t o.dst av,h'⟩ K)
  | some (x,want)=>match guardWant st x want with
   | none=>False
   | some g=>if g = true then evalOp1 P opn st o.op (fun av h'=>evalOps P opn os ⟨putT st.t o.dst av,h'⟩ K) else evalOps P opn os ⟨putT st.t o.dst (.tup []),st.h⟩ K):=rfl
theorem evalOps_ok:∀ {cos:List CO} {st:St} {K:St -> Prop},evalOps P opn cos st K -> ∃ st',RunD P opn cos st st' /\ K st'
 | [],st,K,h=>⟨st,rfl,h⟩
 | o :: os,st,K,h=>by
  rw [evalOps_cons] at h
  cases hg:o.guard with
  | none =>
   rw [hg] at h
   obtain ⟨av,h',hv,hk⟩:=evalOp1_ok h
   obtain ⟨st',hr,hK⟩:=evalOps_ok hk
   refine ⟨st',⟨_,⟨av,h',?_,rfl⟩,hr⟩,hK⟩
   unfold OV
   rw [hg]
   exact hv
  | some p =>
   obtain ⟨x,want⟩:=p
   rw [hg] at h
   simp only at h
   cases hw:guardWant st x want with
   | none=>rw [hw] at h;exact h.elim
   | some g =>
    rw [hw] at h
    cases g with
    | true =>
     obtain ⟨av,h',hv,hk⟩:=evalOp1_ok h
     obtain ⟨st',hr,hK⟩:=evalOps_ok hk
     refine ⟨st',⟨_,⟨av,h',?_,rfl⟩,hr⟩,hK⟩
     unfold OV
     rw [hg]
     exact ⟨true,hw,fun _=>hv,fun e=>by cases e⟩
    | false =>
     obtain ⟨st',hr,hK⟩:=evalOps_ok h
     refine ⟨st',⟨_,⟨.tup [],st.h,?_,rfl⟩,hr⟩,hK⟩
     unfold OV
     rw [hg]
     exact ⟨false,hw,(fun e=>by cases e),fun _=>⟨rfl,rfl⟩⟩
def thenA (N:St -> Prop) (Q:Exit -> St -> Prop):Exit -> St -> Prop
 | .normal,st=>N st
 | e,st=>Q e st
def inBlockA (id:Nat) (Q:Exit -> St -> Prop):Exit -> St -> Prop
 | .exit id',st=>if id' = id then Q .normal st else Q (.exit id') st
 | e,st=>Q e st
def noGotoA (Q:Exit -> St -> Prop):Exit -> St -> Prop
 | .goto _,_=>False
 | e,st=>Q e st
def waitG (g:Bool) (st:St):St:=if g then ⟨st.t,st.h ++ [phBlk]⟩ else st
def evalC [Glb] (P:Program) (opn:List FuncId) (n0:Nat):CC -> (Exit -> St -> Prop) -> St -> Prop
 | .skip,Q,st=>Q .normal st
 | .reg cos,Q,st=>evalOps P opn cos st (Q .normal)
 | .regn g cos,Q,st=>evalOps P opn cos (waitG g st) (Q .normal)
 | .seq x y,Q,st=>evalC P opn n0 x (thenA (AWp P opn n0 y Q) Q) st
 | .cond c x y,Q,st=>match st.ev c with
  | .one (.c (.val (.bool t)))=>if t = true then evalC P opn n0 x Q st else evalC P opn n0 y Q st
  | _=>False
 | .block id c,Q,st=>evalC P opn n0 c (inBlockA id Q) st
 | .scope c,Q,st=>evalC P opn n0 c (noGotoA Q) st
 | .loop c,Q,st=>AWp P opn n0 (.loop c) Q st
 | .rf g ps a b,Q,st=>AWp P opn n0 (.rf g ps a b) Q st
 | .rfb g ps d t m s b,Q,st=>AWp P opn n0 (.rfb g ps d t m s b) Q st
 | .exit id,Q,st=>Q (.exit id) st
 | .ret,Q,st=>Q .ret st
theorem awp_seq {x y:CC} {Q:Exit -> St -> Prop} (h:AWp P opn n0 x (thenA (AWp P opn n0 y Q) Q) st):AWp P opn n0 (.seq x y) Q st:=by
 intro code hc X n hd a w hX r
 cases code with
 | seq cx cy =>
  simp only [ccode] at hc
  split at hc
  ·rename_i a' b' h1 h2
   simp only [Option.some.injEq,CC.seq.injEq] at hc
   obtain ⟨rfl,rfl⟩:=hc
   refine wpIn_seq (wpIn_mono (h cx h1 X n hd a w hX r) ?_)
   rintro e a' w' ⟨s,hd',q,r'⟩
   cases e with
   | normal=>exact q cy h2 X n hd' a' w' hX r'
   | _=>exact ⟨s,hd',q,r'⟩
  ·cases hc
 | region id ops drawn=>simp only [ccode] at hc;rcases regCC_kind hc with ⟨_,h⟩ | ⟨_,_,h⟩ <;> cases h
 | cond c x y=>simp only [ccode] at hc;split at hc <;> cases hc
 | block id c=>simp [ccode] at hc
 | scope c=>simp [ccode] at hc
 | loop c=>simp [ccode] at hc
 | rangeFunc g ps a b=>simp only [ccode] at hc;split at hc <;> cases hc
 | _=>cases hc
theorem awp_reg (hm:P.follows .mixedOrders = true) {Q:Exit -> St -> Prop} (h:evalOps P opn cos st (Q .normal)):AWp P opn n0 (.reg cos) Q st:=by
 intro code hc X n hd a w hX r
 obtain ⟨st',hr,hK⟩:=evalOps_ok h
 cases code with
 | region id ops drawn =>
  simp only [ccode,regCC] at hc
  split at hc
  ·rename_i cos' hm'
   have hall:=compAll_ok hm'
   split at hc
   ·rename_i hdr
    simp only [Option.some.injEq,CC.reg.injEq] at hc
    subst hc
    cases drawn with
    | false=>exact region_ok hall r hr (fun hd' a' w' r'=>⟨st',hd',hK,r'⟩)
    | true=>exact region_any_ok hm hall (by simpa using hdr) r hr (fun hd' a' w' r'=>⟨st',hd',hK,r'⟩)
   ·split at hc
    ·cases hc
    ·split at hc
     ·cases hc
     ·split at hc <;> cases hc
  ·cases hc
 | seq x y=>simp only [ccode] at hc;split at hc <;> cases hc
 | cond c x y=>simp only [ccode] at hc;split at hc <;> cases hc
 | block id c=>simp [ccode] at hc
 | scope c=>simp [ccode] at hc
 | loop c=>simp [ccode] at hc
 | rangeFunc g ps a b=>simp only [ccode] at hc;split at hc <;> cases hc
 | _=>cases hc
theorem vary_ok {nf:Bool} {keep:List Operand -> Bool} {c:COp}:vary c (varyOp nf keep c):=by
 cases c with
 | slice e x lo hi mx=>exact .inr (.inl ⟨e,x,lo,hi,mx,rfl,rfl⟩)
 | mkrow ty e ps =>
  simp only [varyOp]
  split
  ·exact .inl rfl
  ·exact .inr (.inr (.inl ⟨ty,e,ps,rfl,rfl⟩))
 | new ty zs =>
  simp only [varyOp]
  split
  ·exact .inr (.inr (.inr (.inl ⟨ty,zs,rfl,rfl⟩)))
  ·exact .inl rfl
 | _=>exact .inl rfl
theorem vary_all {ops:Array Oper} {cos:List CO} (h:allCompiled P ops cos):allV P ops (varyCos cos):=by
 refine ⟨by unfold varyCos;rw [List.length_map];exact h.1,fun i o co ho hco=>?_⟩
 unfold varyCos at hco
 rw [List.getElem?_map] at hco
 cases hq:cos[i]? with
 | none=>simp [hq] at hco
 | some c =>
  simp only [hq,Option.map_some,Option.some.injEq] at hco
  subst hco
  obtain ⟨h1,h2,h3⟩:=h.2 i o c ho hq
  exact ⟨h1,⟨c.op,h2,vary_ok⟩,h3⟩
theorem vary_all2 {ops:Array Oper} {cos:List CO} (h:allCompiled P ops cos):allV P ops (varyCos2 cos):=by
 refine ⟨by unfold varyCos2;rw [List.length_map];exact h.1,fun i o co ho hco=>?_⟩
 unfold varyCos2 at hco
 rw [List.getElem?_map] at hco
 cases hq:cos[i]? with
 | none=>simp [hq] at hco
 | some c =>
  simp only [hq,Option.map_some,Option.some.injEq] at hco
  subst hco
  obtain ⟨h1,h2,h3⟩:=h.2 i o c ho hq
  cases hop:c.op with
  | make ty e b zs l x=>exact ⟨h1,⟨c.op,h2,by rw [hop];exact .inr (.inr (.inr (.inr ⟨ty,e,b,zs,l,x,rfl,rfl⟩)))⟩,h3⟩
  | _=>exact ⟨h1,⟨c.op,h2,by rw [hop];exact vary_ok (nf:=(cos.filter isNew).length == 1) (keep:=fedApp cos)⟩,h3⟩
theorem awp_regn (hm:P.follows .mixedOrders = true) {g:Bool} {Q:Exit -> St -> Prop} (h:evalOps P opn cos (waitG g st) (Q .normal)):AWp P opn n0 (.regn g cos) Q st:=by
 intro code hc X n hd a w hX r
 obtain ⟨st',hr,hK⟩:=evalOps_ok h
 cases code with
 | region id ops drawn =>
  simp only [ccode,regCC] at hc
  split at hc
  ·rename_i cos' hm'
   have hall:=compAll_ok hm'
   split at hc
   ·cases hc
   ·rename_i hdr
    have hd1:drawn = true:=by
     cases drawn with
     | true=>rfl
     | false=>simp at hdr
    subst hd1
    split at hc
    ·rename_i hok
     simp only [Option.some.injEq,CC.regn.injEq] at hc
     obtain ⟨rfl,rfl⟩:=hc
     exact region_V_ok hm (vary_all hall) hok r hr (fun hd' a' w' r'=>⟨st',hd',hK,r'⟩)
    ·split at hc
     ·rename_i hok
      simp only [Option.some.injEq,CC.regn.injEq] at hc
      obtain ⟨rfl,rfl⟩:=hc
      exact region_V_ok hm (vary_all hall) hok r hr (fun hd' a' w' r'=>⟨st',hd',hK,r'⟩)
     ·split at hc
      ·rename_i hok
       simp only [Option.some.injEq,CC.regn.injEq] at hc
       obtain ⟨rfl,rfl⟩:=hc
       exact region_V_ok hm (vary_all2 hall) hok r hr (fun hd' a' w' r'=>⟨st',hd',hK,r'⟩)
      ·cases hc
  ·cases hc
 | seq x y=>simp only [ccode] at hc;split at hc <;> cases hc
 | cond c x y=>simp only [ccode] at hc;split at hc <;> cases hc
 | block id c=>simp [ccode] at hc
 | scope c=>simp [ccode] at hc
 | loop c=>simp [ccode] at hc
 | rangeFunc g ps a b=>simp only [ccode] at hc;split at hc <;> cases hc
 | _=>cases hc
theorem awp_cond {c:Operand} {x y:CC} {t:Bool} {Q:Exit -> St -> Prop} (hv:st.ev c = .one (.c (.val (.bool t)))) (h1:t = true -> AWp P opn n0 x Q st) (h2:t = false -> AWp P opn n0 y Q st):AWp P opn n0 (.cond c x y) Q st:=by
 intro code hc X n hd a w hX r
 cases code with
 | cond c' cx cy =>
  simp only [ccode] at hc
  split at hc
  ·rename_i a' b' e1 e2
   simp only [Option.some.injEq,CC.cond.injEq] at hc
   obtain ⟨rfl,rfl,rfl⟩:=hc
   have hs:=r.sees c'
   rw [hv] at hs
   refine wpIn_cond_split hs.val (fun ht=>h1 ht cx e1 X n hd a w hX r) (fun ht=>h2 ht cy e2 X n hd a w hX r)
  ·cases hc
 | region id ops drawn=>simp only [ccode] at hc;rcases regCC_kind hc with ⟨_,h⟩ | ⟨_,_,h⟩ <;> cases h
 | seq c x=>simp only [ccode] at hc;split at hc <;> cases hc
 | block id c=>simp [ccode] at hc
 | scope c=>simp [ccode] at hc
 | loop c=>simp [ccode] at hc
 | rangeFunc g ps a b=>simp only [ccode] at hc;split at hc <;> cases hc
 | _=>cases hc
theorem awp_block {id:Nat} {c:CC} {Q:Exit -> St -> Prop} (h:AWp P opn n0 c (inBlockA id Q) st):AWp P opn n0 (.block id c) Q st:=by
 intro code hc X n hd a w hX r
 cases code with
 | block id' c' =>
  simp only [ccode,Option.map_eq_some_iff] at hc
  obtain ⟨c0,h0,h1⟩:=hc
  cases h1
  refine wpIn_block (wpIn_mono (h c' h0 X n hd a w hX r) ?_)
  rintro e a' w' ⟨s,hd',q,r'⟩
  cases e with
  | exit id'' =>
   show if _ then _ else _
   simp only [inBlockA] at q
   split
   ·rename_i hid;rw [if_pos hid] at q;exact ⟨s,hd',q,r'⟩
   ·rename_i hid;rw [if_neg hid] at q;exact ⟨s,hd',q,r'⟩
  | _=>exact ⟨s,hd',q,r'⟩
 | region id ops drawn=>simp only [ccode] at hc;rcases regCC_kind hc with ⟨_,h⟩ | ⟨_,_,h⟩ <;> cases h
 | seq c x=>simp only [ccode] at hc;split at hc <;> cases hc
 | cond c x y=>simp only [ccode] at hc;split at hc <;> cases hc
 | scope c=>simp [ccode] at hc
 | loop c=>simp [ccode] at hc
 | rangeFunc g ps a b=>simp only [ccode] at hc;split at hc <;> cases hc
 | _=>cases hc
section
variable {b:Frame} {k:List Item} {cs:List Frame}
theorem stepR_scope {c:Code}:step P (lone (b.atR a (.code (.scope c) :: k)) cs w) = .next (lone (b.atR a (.code c :: .inScope c :: k)) cs w) :=
 step_lone_go (by simp [stepG,stepG.exec,Frame.atR])
theorem stepR_inScope {c:Code}:step P (lone (b.atR a (.inScope c :: k)) cs w) = .next (lone (b.atR a k) cs w) :=
 step_lone_go (by simp [stepG,stepG.exec,Frame.atR])
end
theorem wpIn_scope {F:Fence} {n:Nat} {c:Code} {Q:Exit -> Act -> World -> Prop} (h:c.wpIn F n P (Exit.noGoto Q) a w):(Code.scope c).wpIn F n P Q a w:=by
 intro b k cs hro hb hr
 have h0:(lone (b.atR a (.code (.scope c) :: k)) cs w).fenced P F:=fenced_calm hb hr rfl
 obtain ⟨e,a₁,w₁,hq,harr⟩:=h b (.inScope c :: k) cs hro hb hr
 cases e with
 | normal=>exact ⟨.normal,a₁,w₁,hq,.head h0 stepR_scope (StepsIn.trans harr (.one (fenced_calm hb hr rfl) stepR_inScope))⟩
 | exit id =>
  have hx:exitTo id (.inScope c :: k) = exitTo id k:=by simp [exitTo]
  exact ⟨.exit id,a₁,w₁,hq,fun k' hk=>.head h0 stepR_scope (harr.1 k' (by rw [hx];exact hk)),
   fun hr' hk=>let ⟨k₁,h1,h2⟩:=harr.2 hr' (by rw [hx];exact hk);⟨k₁,h1,.head h0 stepR_scope h2⟩⟩
 | goto l=>exact hq.elim
 | ret=>exact ⟨_,a₁,w₁,hq,.of_steps (.one h0 stepR_scope) harr⟩
 | panic ch=>exact ⟨_,a₁,w₁,hq,.of_steps (.one h0 stepR_scope) harr⟩
 | outgrown=>exact ⟨_,a₁,w₁,hq,.of_steps (.one h0 stepR_scope) harr⟩
theorem awp_scope {c:CC} {Q:Exit -> St -> Prop} (h:AWp P opn n0 c (noGotoA Q) st):AWp P opn n0 (.scope c) Q st:=by
 intro code hc X n hd a w hX r
 cases code with
 | scope c' =>
  simp only [ccode,Option.map_eq_some_iff] at hc
  obtain ⟨c0,h0,h1⟩:=hc
  cases h1
  refine wpIn_scope (wpIn_mono (h c' h0 X n hd a w hX r) ?_)
  rintro e a' w' ⟨s,hd',q,r'⟩
  cases e with
  | goto l=>exact q
  | _=>exact ⟨s,hd',q,r'⟩
 | region id ops drawn=>simp only [ccode] at hc;rcases regCC_kind hc with ⟨_,h⟩ | ⟨_,_,h⟩ <;> cases h
 | seq c x=>simp only [ccode] at hc;split at hc <;> cases hc
 | cond c x y=>simp only [ccode] at hc;split at hc <;> cases hc
 | block id c=>simp [ccode] at hc
 | loop c=>simp [ccode] at hc
 | rangeFunc g ps a b=>simp only [ccode] at hc;split at hc <;> cases hc
 | _=>cases hc
theorem awp_skip {Q:Exit -> St -> Prop} (h:Q .normal st):AWp P opn n0 .skip Q st:=by
 intro code hc X n hd a w hX r
 cases code with
 | skip=>exact wpIn_skip ⟨st,hd,h,r⟩
 | label l=>exact wpIn_label ⟨st,hd,h,r⟩
 | region id ops drawn=>simp only [ccode] at hc;rcases regCC_kind hc with ⟨_,h⟩ | ⟨_,_,h⟩ <;> cases h
 | seq c x=>simp only [ccode] at hc;split at hc <;> cases hc
 | cond c x y=>simp only [ccode] at hc;split at hc <;> cases hc
 | block id c=>simp [ccode] at hc
 | scope c=>simp [ccode] at hc
 | loop c=>simp [ccode] at hc
 | rangeFunc g ps a b=>simp only [ccode] at hc;split at hc <;> cases hc
 | _=>cases hc
theorem awp_exit {id:Nat} {Q:Exit -> St -> Prop} (h:Q (.exit id) st):AWp P opn n0 (.exit id) Q st:=by
 intro code hc X n hd a w hX r
 cases code with
 | exit id'=>simp only [ccode,Option.some.injEq,CC.exit.injEq] at hc;subst hc;exact wpIn_exit ⟨st,hd,h,r⟩
 | region id ops drawn=>simp only [ccode] at hc;rcases regCC_kind hc with ⟨_,h⟩ | ⟨_,_,h⟩ <;> cases h
 | seq c x=>simp only [ccode] at hc;split at hc <;> cases hc
 | cond c x y=>simp only [ccode] at hc;split at hc <;> cases hc
 | block id c=>simp [ccode] at hc
 | scope c=>simp [ccode] at hc
 | loop c=>simp [ccode] at hc
 | rangeFunc g ps a b=>simp only [ccode] at hc;split at hc <;> cases hc
 | _=>cases hc
theorem awp_ret {Q:Exit -> St -> Prop} (h:Q .ret st):AWp P opn n0 .ret Q st:=by
 intro code hc X n hd a w hX r
 cases code with
 | ret=>exact wpIn_ret ⟨st,hd,h,r⟩
 | region id ops drawn=>simp only [ccode] at hc;rcases regCC_kind hc with ⟨_,h⟩ | ⟨_,_,h⟩ <;> cases h
 | seq c x=>simp only [ccode] at hc;split at hc <;> cases hc
 | cond c x y=>simp only [ccode] at hc;split at hc <;> cases hc
 | block id c=>simp [ccode] at hc
 | scope c=>simp [ccode] at hc
 | loop c=>simp [ccode] at hc
 | rangeFunc g ps a b=>simp only [ccode] at hc;split at hc <;> cases hc
 | _=>cases hc
theorem evalC_sound (hm:P.follows .mixedOrders = true):∀ (cc:CC) (Q:Exit -> St -> Prop) (st:St),evalC P opn n0 cc Q st -> AWp P opn n0 cc Q st:=by
 intro cc
 induction cc with
 | skip=>exact fun Q st h=>awp_skip h
 | reg cos=>exact fun Q st h=>awp_reg hm h
 | regn g cos=>exact fun Q st h=>awp_regn hm h
 | seq x y ihx ihy=>exact fun Q st h=>awp_seq (ihx _ _ h)
 | cond c x y ihx ihy =>
  intro Q st h
  simp only [evalC] at h
  split at h
  ·rename_i t ht
   exact awp_cond ht (fun e=>ihx _ _ (by rw [if_pos e] at h;exact h)) (fun e=>ihy _ _ (by rw [if_neg (by rw [e];simp)] at h;exact h))
  ·exact h.elim
 | block id c ih=>exact fun Q st h=>awp_block (ih _ _ h)
 | scope c ih=>exact fun Q st h=>awp_scope (ih _ _ h)
 | loop c _=>exact fun Q st h=>h
 | rf g ps a b _=>exact fun Q st h=>h
 | rfb g ps d t m s b _=>exact fun Q st h=>h
 | exit id=>exact fun Q st h=>awp_exit h
 | ret=>exact fun Q st h=>awp_ret h
end Go.Am
namespace Go.Am
open Go.RowKit
variable {GL:Glb}
variable {P:Program} {opn:List FuncId} {w w':World} {M0:Nat -> Prop} {h h0 h1 h2 h':List Blk} {hd hd':Nat -> Value} {B0:Nat} {bad bad':Nat -> Prop} {X:Ctx} {st st':St} {a:Act} {t t' t2:List AV}
 {ops:Array Oper} {cos:List CO} {rd:Option Nat} {n n0:Nat}
def Fgt [Glb] (n0:Nat) (st st':St):Prop :=
 ∀ (X:Ctx) (hd:Nat -> Value) (a:Act) (w:World),X.h0.length = n0 -> Rel X st hd a w -> ∃ hd',Rel X st' hd' a w
theorem Fgt.refl (st:St):Fgt n0 st st:=fun X hd a w _ r=>⟨hd,r⟩
theorem Fgt.of_eq (e:st = st'):Fgt n0 st st':=e ▸ Fgt.refl st
theorem Fgt.trans {s1 s2 s3:St} (a:Fgt n0 s1 s2) (b:Fgt n0 s2 s3):Fgt n0 s1 s3:=fun X hd c w hX r=>by
 obtain ⟨hd1,r1⟩:=a X hd c w hX r
 exact b X hd1 c w hX r1
theorem AWp.fgt {cc:CC} {Q:Exit -> St -> Prop} (h:AWp P opn n0 cc Q st') (hf:Fgt n0 st st'):AWp P opn n0 cc Q st:=fun code hc X n hd a w hX r=>by
 obtain ⟨hd',r'⟩:=hf X hd a w hX r
 exact h code hc X n hd' a w hX r'
def clean1 (n:Nat):Cell -> Cell
 | .own b v=>if b < n then .own b v else .junk
 | .ptr b v i o=>if b < n then .ptr b v i o else .junk
 | .fn _ _=>.junk
 | .mfn _ _=>.junk
 | x=>x
def cleanCell (n:Nat):Cell -> Cell
 | .fn f caps=>.fn f (caps.map (clean1 n))
 | x=>clean1 n x
def cleanAV (n:Nat):AV -> AV
 | .one x=>.one (cleanCell n x)
 | .agg l=>.agg (l.map (cleanCell n))
 | _=>.junk
def cleanBlk (n:Nat) (k:Blk):Blk:={ k with els:=k.els.map (·.map (cleanCell n)) }
def cleanT (n:Nat) (dead:List Nat) (t:List AV):List AV:=t.mapIdx fun i x=>if dead.contains i then .junk else cleanAV n x
def norm (n:Nat) (dead:List Nat) (st:St):St:=⟨cleanT n dead st.t,(st.h.take n).map (cleanBlk n)⟩
theorem VR.clean1 (hh:∀ (b:Nat) (k:Blk),b < n -> h[b]? = some k -> ∃ k',h'[b]? = some k' /\ k'.ver = k.ver /\ k'.e = k.e) (hb:∀ g,bad' g -> bad g) {x:Cell} {v:Value} (hx:VR w bad h hd x v):VR w bad' h' hd (Am.clean1 n x) v:=by
 cases hx with
 | c x v hx=>exact .c x v (hx.tr (fun _ _ _=>rfl) (fun g hg _ hbg=>hg (hb g hbg)) (Nat.le_refl _))
 | own b blk hb' h1 =>
  simp only [Am.clean1]
  split
  ·rename_i hlt
   obtain ⟨k',hk',hv',he'⟩:=hh b blk hlt hb'
   rw [<- hv']
   exact .own b k' hk' h1
  ·exact .junk _ h1
 | ownStale b ver blk v hb' hv h1 =>
  simp only [Am.clean1]
  split
  ·rename_i hlt
   obtain ⟨k',hk',hv',he'⟩:=hh b blk hlt hb'
   exact .ownStale b ver k' v hk' (by omega) h1
  ·exact .junk _ h1
 | ptr b i off blk g m cap hb' hhd =>
  simp only [Am.clean1]
  split
  ·rename_i hlt
   obtain ⟨k',hk',hv',he'⟩:=hh b blk hlt hb'
   rw [<- hv',<- he']
   exact .ptr b i off k' g m cap hk' hhd
  ·exact .junk _ rfl
 | ptrStale b ver i off blk v hb' hv h1 =>
  simp only [Am.clean1]
  split
  ·rename_i hlt
   obtain ⟨k',hk',hv',he'⟩:=hh b blk hlt hb'
   exact .ptrStale b ver i off k' v hk' (by omega) h1
  ·exact .junk _ h1
 | iptr l g off f hbad hlt hc hv=>exact .iptr l g off f (fun hg=>hbad (hb g hg)) hlt hc (fun j x hj=>(hv j x hj).tr (fun _ _ _=>rfl) (fun g hg _ hbg=>hg (hb g hbg)) (Nat.le_refl _))
 | fn f caps vs hl hv=>exact .junk _ rfl
 | mfn f c v hv=>exact .junk _ rfl
 | slx e l g off hx=>exact .slx e l g off (hx.tr (fun _ _ _=>rfl) (fun g hg _ hbg=>hg (hb g hbg)) (Nat.le_refl _))
 | junk v h1=>exact .junk v h1
theorem VR.clean (hh:∀ (b:Nat) (k:Blk),b < n -> h[b]? = some k -> ∃ k',h'[b]? = some k' /\ k'.ver = k.ver /\ k'.e = k.e) (hb:∀ g,bad' g -> bad g) {x:Cell} {v:Value} (hx:VR w bad h hd x v):VR w bad' h' hd (cleanCell n x) v:=by
 cases hx with
 | fn f caps vs hl hv =>
  refine .fn f _ vs (by simpa using hl) (fun i c v h1 h2=>?_)
  rw [List.getElem?_map] at h1
  cases hq:caps[i]? with
  | none=>simp [hq] at h1
  | some q=>simp [hq] at h1;subst h1;exact (hv i q v hq h2).clean1 hh hb
 | c x v hx=>exact VR.clean1 hh hb (.c x v hx)
 | own b blk hb' h1=>exact VR.clean1 hh hb (.own b blk hb' h1)
 | ownStale b ver blk v hb' hv h1=>exact VR.clean1 hh hb (.ownStale b ver blk v hb' hv h1)
 | ptr b i off blk g m cap hb' hhd=>exact VR.clean1 hh hb (.ptr b i off blk g m cap hb' hhd)
 | ptrStale b ver i off blk v hb' hv h1=>exact VR.clean1 hh hb (.ptrStale b ver i off blk v hb' hv h1)
 | iptr l g off f hbad hlt hc hv=>exact VR.clean1 hh hb (.iptr l g off f hbad hlt hc hv)
 | mfn f c v hv=>exact VR.clean1 hh hb (.mfn f c v hv)
 | slx e l g off hx=>exact VR.clean1 hh hb (.slx e l g off hx)
 | junk v h1=>exact VR.clean1 hh hb (.junk v h1)
theorem AVR.clean (hh:∀ (b:Nat) (k:Blk),b < n -> h[b]? = some k -> ∃ k',h'[b]? = some k' /\ k'.ver = k.ver /\ k'.e = k.e) (hb:∀ g,bad' g -> bad g) {x:AV} {v:Value} (hx:AVR w bad h hd x v):AVR w bad' h' hd (cleanAV n x) v:=by
 cases hx with
 | one x v hx=>exact .one _ _ (hx.clean hh hb)
 | agg l vs hl hv =>
  refine .agg _ vs (by simpa using hl) (fun i c v h1 h2=>?_)
  rw [List.getElem?_map] at h1
  cases hq:l[i]? with
  | none=>simp [hq] at h1
  | some q=>simp [hq] at h1;subst h1;exact (hv i q v hq h2).clean hh hb
 | tup l vs hl hv=>exact .junk _
 | junk v=>exact .junk v
theorem norm_get {n:Nat} {h:List Blk} {b:Nat} {k':Blk} (hk:((h.take n).map (cleanBlk n))[b]? = some k'):∃ k,h[b]? = some k /\ b < n /\ k' = cleanBlk n k:=by
 rw [List.getElem?_map,List.getElem?_take] at hk
 split at hk
 ·cases hq:h[b]? with
  | none=>simp [hq] at hk
  | some q=>simp [hq] at hk;exact ⟨q,rfl,by assumption,hk.symm⟩
 ·cases hk
theorem Fgt.norm (hn:n0 <= n) (dead:List Nat) (st:St):Fgt n0 st (norm n dead st):=by
 intro X hd a w hX r
 refine ⟨hd,?_⟩
 have hh:∀ (b:Nat) (k:Blk),b < n -> st.h[b]? = some k -> ∃ k',((st.h.take n).map (cleanBlk n))[b]? = some k' /\ k'.ver = k.ver /\ k'.e = k.e:=fun b k hb hk =>
  ⟨cleanBlk n k,by rw [List.getElem?_map,List.getElem?_take,if_pos hb,hk];rfl,rfl,rfl⟩
 have hb:∀ g,badOf X.M0 ((st.h.take n).map (cleanBlk n)) hd g -> badOf X.M0 st.h hd g:=fun g hg=>by
  rcases hg with hm | ⟨b,k,hk,hl,hg⟩
  ·exact .inl hm
  ·obtain ⟨k0,hk0,_,rfl⟩:=norm_get hk
   exact .inr ⟨b,k0,hk0,hl,hg⟩
 refine ⟨r.below,⟨?_,fun i c v hc hv=>?_⟩,⟨fun b k hk=>?_,fun b k hk=>?_,fun b b' k k' hk hk' hl hne g hg=>?_⟩,⟨r.tr.blk,fun g hg hl hbg=>r.tr.ok g hg hl (hb g hbg),r.tr.size,fun b k hk=>?_⟩,r.keeps,r.big,r.marks⟩
 ·rw [<- r.slots.1];simp [Am.norm,cleanT]
 ·simp only [Am.norm,cleanT,List.getElem?_mapIdx] at hc
  cases hq:st.t[i]? with
  | none=>simp [hq] at hc
  | some q =>
   simp only [hq,Option.map_some,Option.some.injEq] at hc
   subst hc
   split
   ·exact .junk _
   ·exact (r.slots.2 i q v hq hv).clean hh hb
 ·obtain ⟨k0,hk0,hlt,rfl⟩:=norm_get hk
  obtain ⟨h1,xs,ho,hx⟩:=r.heap.blk b k0 hk0
  refine ⟨fun i q hi=>?_,xs,?_,fun i c v hc hv=>?_⟩
  ·simp only [cleanBlk,List.getElem?_map] at hi ⊢
   cases hq:k0.els[i]? with
   | none=>simp [hq] at hi
   | some q'=>simp [hq] at hi;subst hi;simpa using h1 i q' hq
  ·simpa [cleanBlk] using ho
  ·simp only [cleanBlk] at hc
   rw [<- List.map_flatten,List.getElem?_map] at hc
   cases hq:k0.els.flatten[i]? with
   | none=>simp [hq] at hc
   | some q'=>simp [hq] at hc;subst hc;exact (hx i q' v hq hv).clean hh hb
 ·obtain ⟨k0,hk0,hlt,rfl⟩:=norm_get hk
  exact r.heap.nn b k0 hk0
 ·obtain ⟨k0,hk0,hlt,rfl⟩:=norm_get hk
  obtain ⟨k0',hk0',hlt',rfl⟩:=norm_get hk'
  exact r.heap.apart b b' k0 k0' hk0 hk0' hl hne g hg
 ·obtain ⟨k',hk',hc⟩:=r.tr.own b k hk
  have hlt:b < n:=Nat.lt_of_lt_of_le (hX ▸ (List.getElem?_eq_some_iff.1 hk).1) hn
  obtain ⟨k'',hk'',hv,he⟩:=hh b k' hlt hk'
  refine ⟨k'',hk'',?_⟩
  rw [hv,he]
  exact hc
theorem Fgt.freeze (ids:List Nat) (st:St):Fgt n0 st ⟨st.t,freeze ids st.h⟩:=fun X hd a w hX r =>
 ⟨hd,r.below,r.slots.mono (fun c v hc=>hc.tr (Tr.freeze ids)),r.heap.freeze ids,r.tr.trans (Tr.freeze ids),r.keeps,r.big,r.marks⟩
theorem Fgt.close {i:Nat} {x y:AV} (hi:st.t[i]? = some x) (hc:closeAV st.h 3 x = some y):Fgt n0 st ⟨st.t.set i y,Am.freeze (usedAV st.h 3 x) st.h⟩:=fun X hd a w hX r=>by
 refine ⟨hd,r.below,?_,r.heap.freeze _,r.tr.trans (Tr.freeze _),r.keeps,r.big,r.marks⟩
 have hs:PW (AVR w (badOf X.M0 (Am.freeze (usedAV st.h 3 x) st.h) hd) (Am.freeze (usedAV st.h 3 x) st.h) hd) st.t a.tmps.toList:=r.slots.mono (fun c v hc=>hc.tr (Tr.freeze _))
 refine ⟨by simpa using hs.1,fun j c v hj hv=>?_⟩
 rw [List.getElem?_set] at hj
 by_cases e:i = j
 ·subst e
  rw [if_pos rfl] at hj
  split at hj
  ·simp only [Option.some.injEq] at hj
   subst hj
   exact (closeAV_ok r.heap X.hM0 _ 3 hc (fun b hb=>hb) (r.slots.2 i x v hi hv)).lift _ _
  ·cases hj
 ·rw [if_neg e] at hj
  exact hs.2 j c v hj hv
theorem Fgt.openNil {i:Nat} (hi:st.t[i]? = some (.one (.c (.val (.slice none 0 0))))) (ty:TypeId) (e:Nat):Fgt n0 st ⟨st.t.set i (.one (.own st.h.length 0)),st.h ++ [⟨0,ty,e,[],true,false⟩]⟩:=fun X hd a w hX r=>by
 have hg:=grownBy_refl w none
 obtain ⟨H',T⟩:=r.heap.new hg (v:=.slice none 0 0) (k:=⟨0,ty,e,[],true,false⟩) (xs:=[]) (fun i r h=>by simp at h) ⟨by simp,.inl ⟨rfl,rfl⟩⟩ (fun i c u h=>by simp at h) (fun g h=>by simp [Value.ownBlock] at h) r.M0_lt (by simp)
 refine ⟨_,r.below,?_,H',r.tr.trans T,r.keeps,r.big,r.marks⟩
 have hs:=r.slots.mono (fun c v hc=>hc.tr T)
 refine ⟨by simpa using hs.1,fun j c v hj hv=>?_⟩
 rw [List.getElem?_set] at hj
 by_cases he:i = j
 ·subst he
  rw [if_pos rfl] at hj
  split at hj
  ·simp only [Option.some.injEq] at hj
   subst hj
   have hv':=(r.slots.2 i _ v hi hv).val
   subst hv'
   have:=VR.own (w:=w) (bad:=badOf X.M0 (st.h ++ [⟨0,ty,e,[],true,false⟩]) (upd hd st.h.length (.slice none 0 0))) (hd:=upd hd st.h.length (.slice none 0 0)) (h:=st.h ++ [⟨0,ty,e,[],true,false⟩]) st.h.length ⟨0,ty,e,[],true,false⟩ (by simp) (by rw [upd_same];rfl)
   rw [upd_same] at this
   exact .one _ _ this
  ·cases hj
 ·rw [if_neg he] at hj
  exact hs.2 j c v hj hv
theorem awp_loop {α:Type} (S:α -> St) (I:α -> Prop) (μ:α -> Nat) {c:CC} {Q:Exit -> St -> Prop} (b0:α) (hI:I b0) (h0:Fgt n0 st (S b0))
  (hb:∀ b,I b -> AWp P opn n0 c (thenA (fun s=>∃ b',I b' /\ μ b' < μ b /\ Fgt n0 s (S b')) Q) (S b)):AWp P opn n0 (.loop c) Q st:=by
 intro code hc X n hd a w hX r
 cases code with
 | loop c' =>
  simp only [ccode,Option.map_eq_some_iff] at hc
  obtain ⟨c0,hc0,h1⟩:=hc
  cases h1
  obtain ⟨hd',r'⟩:=h0 X hd a w hX r
  have key:∀ (m:Nat) (b:α) (hd:Nat -> Value) (a:Act) (w:World),μ b < m -> I b -> Rel X (S b) hd a w -> Code.roundsIn (Wd X.rd) n P c' (fun e a' w'=>∃ st' hd',Q e st' /\ Rel X st' hd' a' w') m a w:=by
   intro m
   induction m with
   | zero=>intro b hd a w hm;omega
   | succ m ih =>
    intro b hd a w hm hI r
    rw [roundsIn_succ]
    refine wpIn_mono (hb b hI c' hc0 X n hd a w hX r) ?_
    rintro e a' w' ⟨s,hd',q,r'⟩
    cases e with
    | normal =>
     obtain ⟨b',hI',hlt,hf⟩:=q
     obtain ⟨hd'',r''⟩:=hf X hd' a' w' hX r'
     exact ih b' hd'' a' w' (by omega) hI' r''
    | _=>exact ⟨s,hd',q,r'⟩
  exact wpIn_loop_rounds (μ b0 + 1) (key _ b0 hd' a w (Nat.lt_succ_self _) hI r')
 | region id ops drawn=>simp only [ccode] at hc;rcases regCC_kind hc with ⟨_,h⟩ | ⟨_,_,h⟩ <;> cases h
 | seq c x=>simp only [ccode] at hc;split at hc <;> cases hc
 | cond c x y=>simp only [ccode] at hc;split at hc <;> cases hc
 | block id c=>simp [ccode] at hc
 | scope c=>simp [ccode] at hc
 | rangeFunc g ps a b=>simp only [ccode] at hc;split at hc <;> cases hc
 | _=>cases hc
end Go.Am
namespace Go.Am
open Go.RowKit
variable {GL:Glb}
variable {P:Program} {opn:List FuncId} {w w' w2:World} {M0:Nat -> Prop} {h h0 h1 h2 h':List Blk} {hd hd':Nat -> Value} {B0:Nat} {bad bad':Nat -> Prop} {X:Ctx} {st st':St} {a:Act} {t t' t2:List AV}
 {ops:Array Oper} {cos:List CO} {rd:Option Nat} {n n0:Nat}
def CellsKept (w w':World):Prop:=w.heap.size <= w'.heap.size /\ ∀ (g:Nat) cs t o,w.heap[g]? = some (Obj.cells cs t o) -> w'.heap[g]? = some (Obj.cells cs t o)
theorem CellsKept.refl (w:World):CellsKept w w:=⟨Nat.le_refl _,fun _ _ _ _ h=>h⟩
theorem CellsKept.trans (a:CellsKept w w') (b:CellsKept w' w2):CellsKept w w2:=⟨Nat.le_trans a.1 b.1,fun g cs t o h=>b.2 g cs t o (a.2 g cs t o h)⟩
theorem CellsKept.cell (k:CellsKept w w') {p:Addr} {v:Value} (h:w.cell? p = some v):w'.cell? p = some v:=by
 unfold World.cell? at h ⊢
 split at h
 ·rename_i cs t o hg
  rw [k.2 _ _ _ _ hg]
  exact h
 ·cases h
theorem CR.kept (k:CellsKept w w') {x:CV} {v:Value} (h:CR w bad x v):CR w' bad x v:=by
 induction h with
 | val v h=>exact .val v h
 | str s=>exact .str s
 | sl e l g off cap f hcap hbad hlt hrow hc hv ih =>
  exact .sl e l g off cap f hcap hbad (by have:=k.1;omega) hrow (fun i j hi hj=>k.cell (hc i j hi hj)) ih
 | emp e a=>exact .emp e a
theorem VR.kept (k:CellsKept w w') {x:Cell} {v:Value} (hx:VR w bad h hd x v):VR w' bad h hd x v:=by
 induction hx with
 | c x v hx=>exact .c x v (hx.kept k)
 | own b blk hb h1=>exact .own b blk hb h1
 | ownStale b ver blk v hb hv h1=>exact .ownStale b ver blk v hb hv h1
 | ptr b i off blk g n cap hb hh=>exact .ptr b i off blk g n cap hb hh
 | ptrStale b ver i off blk v hb hv h1=>exact .ptrStale b ver i off blk v hb hv h1
 | iptr l g off f hbad hlt hc hv=>exact .iptr l g off f hbad (by have:=k.1;omega) (fun j x hj=>k.cell (hc j x hj)) (fun j x hj=>(hv j x hj).kept k)
 | fn f caps vs hl hv ih=>exact .fn f caps vs hl ih
 | mfn f c v hv ih=>exact .mfn f c v ih
 | slx e l g off hx=>exact .slx e l g off (hx.kept k)
 | junk v h1=>exact .junk v h1
theorem AVR.kept (k:CellsKept w w') {x:AV} {v:Value} (hx:AVR w bad h hd x v):AVR w' bad h hd x v:=by
 induction hx with
 | one x v hx=>exact .one x v (hx.kept k)
 | agg l vs hl hv=>exact .agg l vs hl (fun i c v h1 h2=>(hv i c v h1 h2).kept k)
 | tup l vs hl hv ih=>exact .tup l vs hl ih
 | junk v=>exact .junk v
theorem ownsRow_kept (k:CellsKept w w') {e n:Nat} {ty:TypeId} {v:Value} {xs:List Value} (h:w.ownsRow B0 ty e v n xs):w'.ownsRow B0 ty e v n xs:=by
 refine ⟨h.1,?_⟩
 rcases h.2 with h0 | ⟨g,cap,cur,h1,h2,h3,h4⟩
 ·exact .inl h0
 ·exact .inr ⟨g,cap,cur,h1,h2,k.2 _ _ _ _ h3,h4⟩
theorem HR.kept (k:CellsKept w w') (H:HR B0 M0 w h hd):HR B0 M0 w' h hd :=
 ⟨fun b kb hb=>by
  obtain ⟨h1,xs,ho,hx⟩:=H.blk b kb hb
  exact ⟨h1,xs,ownsRow_kept k ho,fun i c v hc hv=>(hx i c v hc hv).kept k⟩,H.nn,H.apart⟩
theorem marks_off {fn:Func} {tmps:Array Value} {R:Ending -> World -> Prop} {B1:Nat}:∀ (Ds:List Nat) (w:World),Ds.Nodup -> (∀ D ∈ Ds,B1 <= D /\ w.heap[D]? = some (.deferred (some []))) ->
  (∀ w',Below B1 w w' -> CellsKept w w' -> ∃ v,(results fn tmps).run P w' = .ok v w' /\ R (.returned v) w') -> LeavesInM (Wd rd) n P fn tmps R (Ds.map markOf) .returning w
 | [],w,_,_,hR=>hR w (Below.refl _ _) (CellsKept.refl _)
 | D :: Ds,w,hN,hD,hR=>by
  have hD0:=hD D (by simp)
  have hN':=List.nodup_cons.1 hN
  refine ⟨by simp,.inl ⟨D,_,rfl,run_takeDeferred hD0.2,?_⟩⟩
  have hlt:D < w.heap.size:=(Array.getElem?_eq_some_iff.1 hD0.2).1
  have hget:∀ k,k ≠ D -> (w.putObj D (.deferred none)).heap[k]? = w.heap[k]?:=fun k hk=>by
   simp [World.putObj,Array.getElem?_setIfInBounds_ne (Ne.symm hk)]
  have hbel:Below B1 w (w.putObj D (.deferred none)):=⟨rfl,rfl,rfl,by simp [World.putObj],fun k hk=>hget k (by omega)⟩
  have hkept:CellsKept w (w.putObj D (.deferred none)):=⟨by simp [World.putObj],fun g cs t o hg=>by
   rw [hget g (fun e=>by subst e;rw [hD0.2] at hg;cases hg)];exact hg⟩
  refine marks_off Ds _ hN'.2 (fun D' hD'=>⟨(hD D' (by simp [hD'])).1,?_⟩) (fun w' hb hk=>hR w' (hbel.trans hb) (hkept.trans hk))
  rw [hget D' (fun e=>hN'.1 (e ▸ hD'))]
  exact (hD D' (by simp [hD'])).2
inductive RV where
 | tmp (t:Tmp)
 | cell (a:Tmp) (n:Nat) (ag:Bool)
def rvOf (P:Program):ResultVar -> Option RV
 | .tmp t=>some (.tmp t)
 | .cell a t =>
  match szOf P t,aggT P t with
  | some n,some ag=>if ag || n == 1 then some (.cell a n ag) else none
  | _,_=>none
def resOne (st:St):RV -> Option AV
 | .tmp t=>some (st.ev (.tmp t))
 | .cell a n ag=>(readN st.h n (st.ev (.tmp a))).bind (mkAV ag)
def resAV (rs:List RV) (st:St):Option AV:=match rs with | [r]=>resOne st r | _=>(rs.mapM (resOne st)).map .tup
theorem rv_ok {rv:ResultVar} {r:RV} (hr:rvOf P rv = some r) {av:AV} (hav:resOne st r = some av) (H:HR B0 M0 w st.h hd) {tmps:Array Value} (hs:∀ t,AVR w (badOf M0 st.h hd) st.h hd (st.ev (.tmp t)) (tmps.getD t undef)) :
  ∃ v,(match rv with | .tmp t=>(pure (tmps.getD t undef):Sem Value) | .cell a t=>do loadVar t (<- asAddr (tmps.getD a undef))).run P w = .ok v w /\ AVR w (badOf M0 st.h hd) st.h hd av v:=by
 cases rv with
 | tmp t =>
  simp only [rvOf,Option.some.injEq] at hr
  subst hr
  simp only [resOne,Option.some.injEq] at hav
  subst hav
  exact ⟨_,rfl,hs t⟩
 | cell a t =>
  simp only [rvOf] at hr
  split at hr
  ·rename_i n ag hn ha
   split at hr
   ·rename_i h1
    simp only [Option.some.injEq] at hr
    subst hr
    simp only [resOne,Option.bind_eq_some_iff] at hav
    obtain ⟨cs,hcs,hm⟩:=hav
    obtain ⟨hl,g,o,hp,hlies⟩:=readN_lies H (hs a) hcs
    obtain ⟨u,hrun,hu⟩:=run_loadVar_lies hn ha hl hlies hm (by simpa using h1)
    refine ⟨u,?_,hu⟩
    show (do loadVar t (<- asAddr (tmps.getD a undef)):Sem Value).run P w = .ok u w
    rw [hp]
    simp only [asAddr,pure_bind]
    exact hrun
   ·cases hr
  ·cases hr
def unV:List Value -> Value
 | [v]=>v
 | l=>.tuple l.toArray
theorem results_ok {fn:Func} {rs:List RV} (hr:fn.results.toList.mapM (rvOf P) = some rs) {av:AV} (hav:resAV rs st = some av) (H:HR B0 M0 w st.h hd) {tmps:Array Value} (hs:∀ t,AVR w (badOf M0 st.h hd) st.h hd (st.ev (.tmp t)) (tmps.getD t undef)) :
  ∃ v,(results fn tmps).run P w = .ok v w /\ AVR w (badOf M0 st.h hd) st.h hd av v:=by
 have key:∀ (l:List ResultVar) (rs:List RV),l.mapM (rvOf P) = some rs -> ∀ avs,rs.mapM (resOne st) = some avs -> ∃ vs:List Value,(l.mapM (m:=Sem) (fun rv=>match rv with | .tmp t=>(pure (tmps.getD t undef):Sem Value) | .cell a t=>do loadVar t (<- asAddr (tmps.getD a undef)))).run P w = .ok vs w /\ PW (AVR w (badOf M0 st.h hd) st.h hd) avs vs:=by
  intro l
  induction l with
  | nil =>
   intro rs h avs h2
   simp at h;subst h;simp at h2;subst h2
   exact ⟨[],rfl,.nil⟩
  | cons x l ih =>
   intro rs h avs h2
   rw [List.mapM_cons] at h
   cases hx:rvOf P x with
   | none=>simp [hx] at h
   | some r =>
    cases hm:l.mapM (rvOf P) with
    | none=>simp [hx,hm] at h
    | some rl =>
     simp [hx,hm] at h
     subst h
     rw [List.mapM_cons] at h2
     cases hy:resOne st r with
     | none=>simp [hy] at h2
     | some av =>
      cases hz:rl.mapM (resOne st) with
      | none=>simp [hy,hz] at h2
      | some avl =>
       simp [hy,hz] at h2
       subst h2
       obtain ⟨v,hv1,hv2⟩:=rv_ok hx hy H hs
       obtain ⟨vs,hv3,hv4⟩:=ih rl hm avl hz
       refine ⟨v :: vs,?_,.cons hv2 hv4⟩
       rw [List.mapM_cons]
       simp only [Sem.run_bind,Sem.run_pure,Result.andThen]
       rw [hv1]
       simp only
       rw [hv3]
 have hall:∃ avs,rs.mapM (resOne st) = some avs /\ av = (match avs with | [x]=>x | l=>.tup l):=by
  unfold resAV at hav
  split at hav
  ·rename_i r
   exact ⟨[av],by simp [hav],rfl⟩
  ·rename_i hne
   simp only [Option.map_eq_some_iff] at hav
   obtain ⟨avs,h1,rfl⟩:=hav
   refine ⟨avs,h1,?_⟩
   have hl:=(mapM_at h1).1
   match avs,hl with
   | [],_=>rfl
   | [x],hl=>exact absurd (List.length_eq_one_iff.1 hl.symm).choose_spec (hne _)
   | x :: y :: l,_=>rfl
 obtain ⟨avs,h1,rfl⟩:=hall
 obtain ⟨vs,h2,h3⟩:=key _ _ hr avs h1
 refine ⟨unV vs,?_,?_⟩
 ·unfold results
  have hM:fn.results.mapM (m:=Sem) (fun rv=>match rv with | .tmp t=>(pure (tmps.getD t undef):Sem Value) | .cell a t=>do loadVar t (<- asAddr (tmps.getD a undef))) = List.toArray <$> fn.results.toList.mapM (m:=Sem) (fun rv=>match rv with | .tmp t=>(pure (tmps.getD t undef):Sem Value) | .cell a t=>do loadVar t (<- asAddr (tmps.getD a undef))):=by
   rw [<- Array.toArray_toList (xs:=fn.results),List.mapM_toArray]
  have hM2:(fn.results.mapM (m:=Sem) (fun rv=>match rv with | .tmp t=>(pure (tmps.getD t undef):Sem Value) | .cell a t=>do loadVar t (<- asAddr (tmps.getD a undef)))).run P w = .ok vs.toArray w:=by
   rw [hM]
   simp only [map_eq_pure_bind,Sem.run_bind,Sem.run_pure,Result.andThen]
   rw [h2]
  simp only [Sem.run_bind,Result.andThen]
  erw [hM2]
  match vs with
  | []=>rfl
  | [v]=>rfl
  | v :: u :: l=>simp [unV,Sem.run_pure]
 ·match avs,vs,h3 with
  | [x],[v],h3=>exact h3.2 0 x v rfl rfl
  | [],[],h3=>exact .tup _ _ rfl h3.2
  | x :: y :: l,v :: u :: m,h3=>exact .tup _ _ h3.1 h3.2
  | [],v :: m,h3=>exact absurd h3.1 (by simp)
  | [x],[],h3=>exact absurd h3.1 (by simp)
  | [x],v :: u :: m,h3=>exact absurd h3.1 (by simp)
  | x :: y :: l,[],h3=>exact absurd h3.1 (by simp)
  | x :: y :: l,[v],h3=>exact absurd h3.1 (by simp)
def closeRes (h:List Blk):AV -> Option AV
 | .tup l=>(l.mapM (closeAV h 3)).map .tup
 | x=>closeAV h 3 x
def usedRes (h:List Blk):AV -> List Nat
 | .tup l=>(l.map (usedAV h 3)).flatten
 | x=>usedAV h 3 x
def Ends (h:List Blk) (x:AV):Ret -> Prop
 | .ret av=>closeRes h x = some av
 | .fresh ty e l nn=>∃ b k,x = .one (.own b k.ver) /\ h[b]? = some k /\ k.ty = ty /\ k.e = e /\ k.live = true /\ k.nn = nn /\ (k.els.mapM fun r=>r.mapM (closeCV h 3)) = some l /\ b ∉ (k.els.map fun r=>(r.map (usedCV h 3)).flatten).flatten
theorem mapM_flat {f:Cell -> Option CV} {els:List (List Cell)} {l:List (List CV)} (hm:(els.mapM fun r=>r.mapM f) = some l):els.flatten.mapM f = some l.flatten:=(mapM_flatten els l hm).1
theorem ends_ok (H:HR B0 M0 w h hd) (hM0:∀ g,M0 g -> g < B0) (hB:B0 = w2.heap.size) {x:AV} {v:Value} {r:Ret} (he:Ends h x r) (hx:AVR w (badOf M0 h hd) h hd x v):RetR w2 w M0 r v:=by
 cases r with
 | ret av =>
  simp only [Ends] at he
  have mono:∀ (ids:List Nat) {y:AV} {v:Value},AVR w (badOf M0 (freeze ids h) hd) [] hd00 y v -> AVR w M0 [] hd00 y v:=fun ids y v hy =>
   hy.tr ⟨fun _ _ _=>rfl,fun g hg _ hm=>hg (.inl hm),Nat.le_refl _,fun b k hk=>by simp at hk⟩
  unfold closeRes at he
  split at he
  ·rename_i l
   simp only [Option.map_eq_some_iff] at he
   obtain ⟨cl,hcl,rfl⟩:=he
   cases hx with
   | tup _ vs hl hv =>
    have hp:=mapM_close H hM0 hcl ⟨hl,hv⟩ (l.map (usedAV h 3)).flatten (fun b hb=>hb)
    exact .tup _ _ hp.1 (fun i c v h1 h2=>mono _ (hp.2 i c v h1 h2))
  ·exact mono _ (closeAV_ok H hM0 (usedAV h 3 x) 3 he (fun b hb=>hb) hx)
 | fresh ty e l nn =>
  obtain ⟨b,k,rfl,hk,rfl,rfl,hlive,rfl,hcl,hnot⟩:=he
  obtain ⟨hrow,xs,ho,hvr⟩:=H.blk b k hk
  have hv:v = hd b:=by
   obtain ⟨ver,hver⟩:∃ ver,ver = k.ver:=⟨_,rfl⟩
   rw [<- hver] at hx
   cases hx with
   | one _ _ hx =>
    cases hx with
    | own _ blk hb h1=>rfl
    | ownStale _ _ blk v hb hv h1=>rw [hk] at hb;cases hb;omega
  subst hv
  obtain ⟨hlen,hrows⟩:=(mapM_flatten k.els l hcl).2
  refine ⟨fun i r hi=>?_,H.nn b k hk,xs,?_,?_⟩
  ·have hi':i < k.els.length:=by rw [<- hlen];exact (List.getElem?_eq_some_iff.1 hi).1
   have h1:=hrow i _ (List.getElem?_eq_getElem hi')
   obtain ⟨hm1,hm2⟩:=mapM_at hcl
   have h2:=hm2 i _ _ (List.getElem?_eq_getElem hi') hi
   have h3:=(mapM_at h2).1
   omega
  ·rw [hlen,<- hB];exact ho
  ·have hfl:=mapM_flat hcl
   have hp:PW (VR w (badOf M0 h hd) h hd) k.els.flatten xs:=by
    refine ⟨?_,hvr⟩
    rw [ho.1]
    have:∀ (els:List (List Cell)),(∀ r ∈ els,r.length = k.e) -> els.flatten.length = els.length * k.e:=fun els he=>by
     induction els with
     | nil=>simp
     | cons r els ih=>simp only [List.flatten_cons,List.length_append,List.length_cons,ih (fun r hr=>he r (by simp [hr])),he r (by simp)];rw [Nat.add_mul];omega
    exact this _ (fun r hr=>by obtain ⟨i,hi⟩:=List.mem_iff_getElem?.1 hr;exact hrow i r hi)
   let ids:=(k.els.map fun r=>(r.map (usedCV h 3)).flatten).flatten
   refine (mapM_pw (S:=CR w (badOf M0 (freeze ids h) hd)) k.els.flatten l.flatten xs hfl hp (fun c y u hc hy hu=>closeCV_ok H hM0 ids 3 c y u hy (fun b' hb'=>?_) hu)).mono (fun c u hcu=>hcu.tr (fun _ _ _=>rfl) (fun g hg _ hbad=>hg ?_) (Nat.le_refl _))
   ·obtain ⟨r,hr,hcr⟩:=List.mem_flatten.1 hc
    exact List.mem_flatten.2 ⟨_,List.mem_map.2 ⟨r,hr,rfl⟩,List.mem_flatten.2 ⟨_,List.mem_map.2 ⟨c,hcr,rfl⟩,hb'⟩⟩
   ·rcases hbad with hm | hg
    ·exact .inl hm
    ·refine .inr ⟨b,k,?_,hlive,hg⟩
     rw [freeze_get,hk]
     have:ids.contains b = false:=by simpa [ids] using hnot
     simp only [Option.map_some,this,Bool.false_eq_true,if_false]
theorem start_pw {args:List AV} {vals:List Value} (hp:PW (AVR w bad h hd) args vals) (m:Nat):PW (AVR w bad h hd) (args ++ List.replicate (m - args.length) .junk) (vals.toArray ++ Array.replicate (m - vals.toArray.size) undef).toList:=by
 have:(vals.toArray ++ Array.replicate (m - vals.toArray.size) undef).toList = vals ++ List.replicate (m - args.length) undef:=by simp [hp.1]
 rw [this]
 refine hp.append ⟨by simp,fun i c v h1 h2=>?_⟩
 have:=List.mem_of_getElem? h1
 rw [List.mem_replicate] at this
 rw [this.2]
 exact .junk _
def leaves (Q:St -> Prop):Exit -> St -> Prop
 | .normal,st | .ret,st=>Q st
 | _,_=>False
theorem pureC_of {f:FuncId} {fn:Func} {code:Code} {cc:CC} {args:List AV} {r:Ret} {rs:List RV} (hf:P.funcs[f]? = some fn) (hcall:callable P f) (hb:fn.body = some code) (hcc:ccode P opn code = some cc) (hres:fn.results.toList.mapM (rvOf P) = some rs)
  (h:AWp P opn 0 cc (leaves fun s=>∃ x,resAV rs s = some x /\ Ends s.h x r) ⟨args ++ List.replicate (fn.ntmps - args.length) .junk,[]⟩):PureC P f args r:=by
 refine ⟨hcall,fun w M vals hMG hp=>(callsIn_wide (n:=0)).1 ?_⟩
 obtain ⟨hM,hG⟩:=hMG
 let X:Ctx:=⟨w.heap.size,w,M,hM,Nat.le_refl _,[],hd00,fun _ _=>False,fun k o h=>h.elim,none,fun l h=>(by cases h),0,hG⟩
 have hbad:∀ g,badOf M [] hd00 g -> M g:=fun g hg=>by
  rcases hg with hm | ⟨b,k,hk,_⟩
  ·exact hm
  ·simp at hk
 have T0:Tr w M [] hd00 w (badOf M [] hd00) [] hd00:=⟨fun _ _ _=>rfl,fun g hg _ hbg=>hg (hbad g hbg),Nat.le_refl _,fun b k hk=>by simp at hk⟩
 have r0:Rel X ⟨args ++ List.replicate (fn.ntmps - args.length) .junk,[]⟩ hd00 { tmps:=vals.toArray ++ Array.replicate (fn.ntmps - vals.toArray.size) undef,defers:=[] } w :=
  ⟨Below.refl _ _,(start_pw (hp.mono fun c v hc=>hc.tr T0) fn.ntmps),⟨fun b k hk=>by simp at hk,fun b k hk=>by simp at hk,fun b b' k k' hk=>by simp at hk⟩,Tr.refl _ _ _ _,(fun k o h=>h.elim),Nat.zero_le _,⟨[],rfl,List.nodup_nil,(fun D hD=>by cases hD)⟩⟩
 refine callsIn_of_wp_marks hf hb trivial ?_ rfl
 refine wpIn_mono (h code hcc X 0 hd00 _ w rfl r0) ?_
 rintro e a' w' ⟨s,hd',q,r'⟩
 have fin:(∃ x,resAV rs s = some x /\ Ends s.h x r) -> LeavesInM (Wd none) 0 P fn a'.tmps (fun e w'=>∃ v,e = .returned v /\ Below w.heap.size w w' /\ RetR w w' M r v) a'.defers .returning w':=fun ⟨x,hx,he⟩=>by
  obtain ⟨Ds,hDs,hN,hD⟩:=r'.marks
  rw [hDs]
  refine marks_off (B1:=w.heap.size) Ds w' hN hD (fun w'' hbel hk=>?_)
  obtain ⟨v,hv,hav⟩:=results_ok hres hx (r'.heap.kept hk) (fun t=>(r'.sees (.tmp t)).kept hk)
  exact ⟨v,hv,v,rfl,r'.below.trans hbel,ends_ok (r'.heap.kept hk) X.hM0 rfl he hav⟩
 cases e with
 | normal=>exact fin q
 | ret=>exact fin q
 | _=>exact q.elim
theorem openC_of {f:FuncId} {fn:Func} {code:Code} {cc:CC} {args:List AV} {r:AV} {rs:List RV} (hf:P.funcs[f]? = some fn) (hcall:callable P f) (hb:fn.body = some code) (hcc:ccode P opn code = some cc) (hres:fn.results.toList.mapM (rvOf P) = some rs)
  (h:AWp P opn h0.length cc (leaves fun s=>s.h = h' /\ resAV rs s = some r) ⟨args ++ List.replicate (fn.ntmps - args.length) .junk,h0⟩):OpenC P f args h0 r h':=by
 refine ⟨hcall,fun B0 M0 w hd vals H hM0 hBG hp=>(callsIn_wide (n:=0)).1 ?_⟩
 obtain ⟨hB0,hG⟩:=hBG
 let X:Ctx:=⟨B0,w,M0,hM0,hB0,h0,hd,fun _ _=>False,fun k o h=>h.elim,none,fun l h=>(by cases h),0,hG⟩
 have r0:Rel X ⟨args ++ List.replicate (fn.ntmps - args.length) .junk,h0⟩ hd { tmps:=vals.toArray ++ Array.replicate (fn.ntmps - vals.toArray.size) undef,defers:=[] } w :=
  ⟨Below.refl _ _,start_pw hp fn.ntmps,H,Tr.refl _ _ _ _,(fun k o h=>h.elim),Nat.zero_le _,⟨[],rfl,List.nodup_nil,(fun D hD=>by cases hD)⟩⟩
 refine callsIn_of_wp_marks hf hb trivial ?_ rfl
 refine wpIn_mono (h code hcc X 0 hd _ w rfl r0) ?_
 rintro e a' w' ⟨s,hd',q,r'⟩
 have fin:s.h = h' /\ resAV rs s = some r -> LeavesInM (Wd none) 0 P fn a'.tmps (fun e w'=>∃ v hd',e = .returned v /\ Below B0 w w' /\ HR B0 M0 w' h' hd' /\ Tr w (badOf M0 h0 hd) h0 hd w' (badOf M0 h' hd') h' hd' /\ AVR w' (badOf M0 h' hd') h' hd' r v) a'.defers .returning w':=by
  rintro ⟨rfl,hx⟩
  obtain ⟨Ds,hDs,hN,hD⟩:=r'.marks
  rw [hDs]
  refine marks_off (B1:=w.heap.size) Ds w' hN hD (fun w'' hbel hk=>?_)
  obtain ⟨v,hv,hav⟩:=results_ok hres hx (r'.heap.kept hk) (fun t=>(r'.sees (.tmp t)).kept hk)
  refine ⟨v,hv,v,hd',rfl,r'.below.trans (hbel.mono hB0),r'.heap.kept hk,?_,hav⟩
  refine ⟨fun g hg hl=>(hbel.block g hl).trans (r'.tr.blk g hg hl),r'.tr.ok,Nat.le_trans r'.tr.size hk.1,r'.tr.own⟩
 cases e with
 | normal=>exact fin q
 | ret=>exact fin q
 | _=>exact q.elim
end Go.Am
namespace Go.Am
open Go.RowKit
variable {GL:Glb}
variable {P:Program} {opn:List FuncId} {h h':List Blk} {st st':St} {n n0:Nat}
theorem inBlockA_normal {id:Nat} {Q:Exit -> St -> Prop}:inBlockA id Q .normal st = Q .normal st:=rfl
theorem inBlockA_ret {id:Nat} {Q:Exit -> St -> Prop}:inBlockA id Q .ret st = Q .ret st:=rfl
theorem inBlockA_exit {id id':Nat} {Q:Exit -> St -> Prop}:inBlockA id Q (.exit id') st = if id' = id then Q .normal st else Q (.exit id') st:=rfl
theorem thenA_normal {N:St -> Prop} {Q:Exit -> St -> Prop}:thenA N Q .normal st = N st:=rfl
theorem thenA_ret {N:St -> Prop} {Q:Exit -> St -> Prop}:thenA N Q .ret st = Q .ret st:=rfl
theorem thenA_exit {id:Nat} {N:St -> Prop} {Q:Exit -> St -> Prop}:thenA N Q (.exit id) st = Q (.exit id) st:=rfl
theorem leaves_normal {Q:St -> Prop}:leaves Q .normal st = Q st:=rfl
theorem leaves_ret {Q:St -> Prop}:leaves Q .ret st = Q st:=rfl
theorem mapM_c (f:Nat) (h:List Blk):∀ (r:List CV),(r.map Cell.c).mapM (closeCV h f) = some r
 | []=>rfl
 | x :: r=>by
  have:closeCV h f (.c x) = some x:=by cases f <;> rfl
  simp [List.mapM_cons,this,mapM_c f h r]
theorem mapM_rows_c (f:Nat) (h:List Blk):∀ (l:List (List CV)),(l.map (·.map Cell.c)).mapM (fun r=>r.mapM (closeCV h f)) = some l
 | []=>rfl
 | x :: r=>by
  rw [List.map_cons,List.mapM_cons,mapM_rows_c f h r,mapM_c]
  rfl
theorem used_c (f:Nat) (h:List Blk) (x:CV):usedCV h f (.c x) = []:=by cases f <;> rfl
theorem flat_nil {α β:Type} (l:List α) (g:α -> List β) (hg:∀ a ∈ l,g a = []):(l.map g).flatten = []:=by
 induction l with
 | nil=>rfl
 | cons a l ih=>simp [hg a (by simp),ih (fun b hb=>hg b (by simp [hb]))]
theorem used_row_c (f:Nat) (h:List Blk) (r:List CV):((r.map Cell.c).map (usedCV h f)).flatten = []:=by
 apply flat_nil
 intro a ha
 obtain ⟨x,_,rfl⟩:=List.mem_map.1 ha
 exact used_c f h x
theorem used_rows_c (f:Nat) (h:List Blk) (l:List (List CV)):((l.map (·.map Cell.c)).map fun r=>(r.map (usedCV h f)).flatten).flatten = []:=by
 apply flat_nil
 intro a ha
 obtain ⟨x,_,rfl⟩:=List.mem_map.1 ha
 exact used_row_c f h x
theorem Ends.fresh_c {b ver e:Nat} {ty:TypeId} {l:List (List CV)} {nn:Bool} (hk:h[b]? = some ⟨ver,ty,e,l.map (·.map .c),true,nn⟩):Ends h (.one (.own b ver)) (.fresh ty e l nn) :=
 ⟨b,_,rfl,hk,rfl,rfl,rfl,rfl,mapM_rows_c 3 h l,by rw [used_rows_c];simp⟩
theorem Ends.ret_c {x:CV}:Ends h (.one (.c x)) (.ret (.one (.c x))):=rfl
theorem closeAVs_nil:([]:List AV).mapM (closeAV h 3) = some []:=rfl
theorem closeAVs_cons {x y:AV} {l m:List AV} (hx:closeAV h 3 x = some y) (hl:l.mapM (closeAV h 3) = some m):(x :: l).mapM (closeAV h 3) = some (y :: m):=by
 rw [List.mapM_cons,hx,hl];rfl
theorem opV_ret {t:List AV} {f:FuncId} {args:List Operand} {as:List AV} {av:AV} {K:AV -> List Blk -> Prop} (ha:callArgs ⟨t,h⟩ (.func f) args = some (f,as)) (hcl:as.mapM (closeAV h 3) = some as) (hu:(as.map (usedAV h 3)).flatten = [])
  (hp:PureC P f as (.ret av)) (hK:K av h):∃ x h',OpV P opn t h (.callf (.func f) args) x h' /\ K x h':=by
 refine ⟨av,h,⟨f,as,ha,.inl ⟨as,.ret av,hcl,hp,?_⟩⟩,hK⟩
 simp only [pureRes,hu,freeze_nil]
 split <;> rfl
theorem opV_fresh {t:List AV} {f:FuncId} {args:List Operand} {as:List AV} {ty:TypeId} {e:Nat} {l:List (List CV)} {nn:Bool} {K:AV -> List Blk -> Prop} (ha:callArgs ⟨t,h⟩ (.func f) args = some (f,as)) (hcl:as.mapM (closeAV h 3) = some as) (hu:(as.map (usedAV h 3)).flatten = [])
  (hp:PureC P f as (.fresh ty e l nn)) (hK:K (.one (.own h.length 0)) (h ++ [⟨0,ty,e,l.map (·.map .c),true,nn⟩])):∃ x h',OpV P opn t h (.callf (.func f) args) x h' /\ K x h':=by
 refine ⟨_,_,⟨f,as,ha,.inl ⟨as,.fresh ty e l nn,hcl,hp,rfl⟩⟩,?_⟩
 rw [hu,freeze_nil]
 exact hK
theorem opV_pure {t:List AV} {f:FuncId} {args:List Operand} {as cas:List AV} {r:Ret} {K:AV -> List Blk -> Prop} (ha:callArgs ⟨t,h⟩ (.func f) args = some (f,as)) (hcl:as.mapM (closeAV h 3) = some cas)
  (hp:PureC P f cas r) (hK:K (pureRes h (as.map (usedAV h 3)).flatten r).1 (pureRes h (as.map (usedAV h 3)).flatten r).2):∃ x h',OpV P opn t h (.callf (.func f) args) x h' /\ K x h' :=
 ⟨_,_,⟨f,as,ha,.inl ⟨cas,r,hcl,hp,rfl⟩⟩,hK⟩
end Go.Am
namespace Go.Am
open Go.RowKit
variable {GL:Glb}
variable {P:Program} {opn:List FuncId} {w w':World} {M0:Nat -> Prop} {h h0 h1 h2 h':List Blk} {hd hd':Nat -> Value} {B0:Nat} {bad bad':Nat -> Prop} {X:Ctx} {st st':St} {a:Act} {t t' t2:List AV}
 {rd:Option Nat} {n n0:Nat} {Q:Exit -> Act -> World -> Prop}
theorem wd_n {c:Code} (h:c.wpIn (Wd rd) n P Q a w) (m:Nat):c.wpIn (Wd rd) m P Q a w :=
 fun b k cs hro hb _=>h b k cs hro hb (fun d hd=>by cases hd)
def mvT (ms:List (Tmp × Tmp)) (t:List AV):List AV:=ms.foldl (fun t p=>t.set p.1 (t.getD p.2 .junk)) t
def mvA (ms:List (Tmp × Tmp)) (a:Act):Act:=ms.foldl (fun a p=>a.put (some p.1) (a.eval (.tmp p.2))) a
theorem mvA_defers:∀ (ms:List (Tmp × Tmp)) (a:Act),(mvA ms a).defers = a.defers
 | [],a=>rfl
 | p :: ms,a=>by
  show (mvA ms (a.put (some p.1) (a.eval (.tmp p.2)))).defers = a.defers
  rw [mvA_defers ms]
  rfl
theorem getD_pw (hp:PW (AVR w bad h hd) t a.tmps.toList) (s:Tmp):AVR w bad h hd (t.getD s .junk) (a.tmps.getD s undef):=by
 cases hi:t[s]? with
 | none=>rw [List.getD,hi];exact .junk _
 | some av =>
  have hlt:s < a.tmps.toList.length:=by rw [<- hp.1];exact (List.getElem?_eq_some_iff.1 hi).1
  have:=hp.2 s av _ hi (List.getElem?_eq_getElem hlt)
  simp only [Array.length_toList] at hlt
  have e:a.tmps.getD s undef = a.tmps.toList[s]:=by simp [Array.getD,hlt]
  rw [List.getD,hi,e]
  exact this
theorem mv_pw:∀ (ms:List (Tmp × Tmp)) (t:List AV) (a:Act),PW (AVR w bad h hd) t a.tmps.toList -> PW (AVR w bad h hd) (mvT ms t) (mvA ms a).tmps.toList
 | [],t,a,hp=>hp
 | p :: ms,t,a,hp=>by
  refine mv_pw ms _ _ ?_
  show PW _ (t.set p.1 (t.getD p.2 .junk)) (a.tmps.setIfInBounds p.1 (a.eval (.tmp p.2))).toList
  rw [Array.toList_setIfInBounds]
  exact hp.set p.1 (getD_pw hp p.2)
theorem move_op {ops:Array Oper} {o:Oper} {p:Tmp × Tmp} {i:Nat} {K:Act -> World -> Prop} {F:Fence} (hi:ops[i]? = some o) (hm:moveOp o = some p) (hK:K (a.put (some p.1) (a.eval (.tmp p.2))) w):wpOpIn F n P ops Q i K a w:=by
 unfold moveOp at hm
 unfold wpOpIn
 rw [hi]
 simp only
 split at hm
 ·rename_i d s hg hd ho
  simp only [Option.some.injEq] at hm
  subst hm
  rw [if_pos (by unfold Region.wanted;rw [hg])]
  exact BigFrame.wpIn_move _ ho (by rw [hd];exact hK)
 ·rename_i d s hg hd ho
  simp only [Option.some.injEq] at hm
  subst hm
  rw [if_pos (by unfold Region.wanted;rw [hg])]
  exact BigFrame.wpIn_assign _ ho (by rw [hd];exact hK)
 ·cases hm
theorem moves_ops {ops:Array Oper} {ms:List (Tmp × Tmp)} {F:Fence} (hm:ops.toList.mapM moveOp = some ms):∀ (is:List Nat) (a:Act),(∀ i ∈ is,i < ops.size) -> Q .normal (mvA (is.filterMap (ms[·]?)) a) w -> wpOpsIn F n P ops Q is a w
 | [],a,_,hQ=>hQ
 | i :: is,a,hi,hQ=>by
  rw [wpOpsIn_cons]
  have hlt:i < ops.size:=hi i (by simp)
  have ho:ops[i]? = some ops[i]:=by simp [hlt]
  obtain ⟨h1,h2⟩:=mapM_at hm
  have hml:i < ms.length:=by rw [h1];simpa using hlt
  have hmi:ms[i]? = some ms[i]:=List.getElem?_eq_getElem hml
  rw [List.filterMap_cons,hmi] at hQ
  exact move_op ho (h2 i _ _ (by simpa using ho) hmi) (moves_ops hm is _ (fun j hj=>hi j (by simp [hj])) hQ)
theorem range_filterMap' {β:Type}:∀ (l:List β) (m:Nat),l.length = m -> (List.range m).filterMap (l[·]?) = l
 | [],m,hm=>by subst hm;rfl
 | x :: l,m,hm=>by
  subst hm
  rw [List.length_cons,List.range_succ_eq_map,List.filterMap_cons]
  simp only [List.getElem?_cons_zero,List.filterMap_map]
  congr 1
  exact range_filterMap' l _ rfl
theorem moves_ok {F:Fence}:∀ (code:Code) {ms:List (Tmp × Tmp)} {a:Act} {Q:Exit -> Act -> World -> Prop},moveCode code = some ms -> Q .normal (mvA ms a) w -> code.wpIn F n P Q a w
 | .skip,ms,a,Q,hm,hQ=>by
  simp only [moveCode,Option.some.injEq] at hm
  subst hm
  exact wpIn_skip hQ
 | .region id ops false,ms,a,Q,hm,hQ=>by
  simp only [moveCode] at hm
  obtain ⟨h1,_⟩:=mapM_at hm
  refine wpIn_region (moves_ops hm _ a (fun i hi=>List.mem_range.1 hi) ?_)
  rw [range_filterMap' ms _ (by simpa using h1)]
  exact hQ
 | .seq x y,ms,a,Q,hm,hQ=>by
  simp only [moveCode] at hm
  split at hm
  ·rename_i m1 m2 h1 h2
   simp only [Option.some.injEq] at hm
   subst hm
   refine wpIn_seq (moves_ok x h1 ?_)
   refine moves_ok y h2 ?_
   have:mvA m2 (mvA m1 a) = mvA (m1 ++ m2) a:=by simp [mvA,List.foldl_append]
   rw [this]
   exact hQ
  ·cases hm
 | .region id ops true,ms,a,Q,hm,hQ=>by simp [moveCode] at hm
 | .cond ..,ms,a,Q,hm,hQ=>by simp [moveCode] at hm
 | .block ..,ms,a,Q,hm,hQ=>by simp [moveCode] at hm
 | .loop ..,ms,a,Q,hm,hQ=>by simp [moveCode] at hm
 | .rangeFunc ..,ms,a,Q,hm,hQ=>by simp [moveCode] at hm
 | .exit ..,ms,a,Q,hm,hQ=>by simp [moveCode] at hm
 | .scope ..,ms,a,Q,hm,hQ=>by simp [moveCode] at hm
 | .label ..,ms,a,Q,hm,hQ=>by simp [moveCode] at hm
 | .goto ..,ms,a,Q,hm,hQ=>by simp [moveCode] at hm
 | .ret,ms,a,Q,hm,hQ=>by simp [moveCode] at hm
 | .refuse ..,ms,a,Q,hm,hQ=>by simp [moveCode] at hm
def KpOf (w:World) (bad:Nat -> Prop) (A B:World):Prop :=
 A.heap.size <= B.heap.size /\ ∀ (g:Nat),g < w.heap.size -> ¬ bad g -> ∀ cs t o,A.heap[g]? = some (Obj.cells cs t o) -> B.heap[g]? = some (Obj.cells cs t o)
def IterC [Glb] (P:Program) (gf:FuncId) (caps:List Cell) {α:Type} (encs:α -> List AV) (np:Nat) (S Sp:List α -> Prop) (N:Nat):Prop :=
 callable P gf /\ (∀ x,(encs x).length = np) /\ ∀ (w:World) (bad:Nat -> Prop) (vs:List Value),((∀ g,bad g -> g < w.heap.size) /\ GB bad w.heap.size w) -> PW (VR w bad [] hd00) caps vs ->
  ∃ enc:α -> List Value,(∀ x,PW (AVR w bad [] hd00) (encs x) (enc x)) /\ ∀ n,SeqStopsK (Wd none) n P gf vs.toArray (fun x=>(enc x).toArray) (KpOf w bad) S Sp N w
def closedCell:Cell -> Bool
 | .c _ | .iptr _ | .slx _ _=>true
 | _=>false
theorem VR.closed {x:Cell} {v:Value} (hcl:closedCell x = true) (hx:VR w bad h hd x v):VR w bad [] hd00 x v:=by
 cases hx with
 | c x v hx=>exact .c x v hx
 | iptr l g off f hbad hlt hc hv=>exact .iptr l g off f hbad hlt hc hv
 | slx e l g off hx=>exact .slx e l g off hx
 | _=>cases hcl
theorem kept_of_grown {row:Option Nat} (hg:w.grownBy w' row) (hr:∀ r,row = some r -> ∃ o:Obj,w.heap[r]? = some o /\ o.isCells = false):CellsKept w w' :=
 ⟨hg.size,fun g cs t o hc=>by
  rw [hg.block g (Array.getElem?_eq_some_iff.1 hc).1 (fun e=>by obtain ⟨o',ho,hn⟩:=hr g e.symm;rw [hc] at ho;cases ho;cases hn)]
  exact hc⟩
theorem Rel.own (r:Rel X st hd a w) (hd0:a.defers = []) (hX:∀ k o,X.keep k o -> k < X.w0.heap.size) {row:Option Nat} (hg:w.grownBy w' row) (hr:∀ g,row = some g -> X.w0.heap.size <= g /\ ∃ o:Obj,w.heap[g]? = some o /\ o.isCells = false):Rel X st hd a w':=by
 have hk:=kept_of_grown hg (fun g e=>(hr g e).2)
 have hne:∀ k,k < X.w0.heap.size -> w'.heap[k]? = w.heap[k]?:=fun k hk=>hg.block k (Nat.lt_of_lt_of_le hk r.below.size) (fun e=>by have:=(hr k e.symm).1;omega)
 refine ⟨r.below.trans ⟨hg.os,hg.tape,hg.output,hg.size,fun k hk=>hne k (Nat.lt_of_lt_of_le hk X.hB0)⟩,r.slots.mono (fun c v hc=>hc.kept hk),r.heap.kept hk,⟨fun g hg' hl=>(hne g hl).trans (r.tr.blk g hg' hl),r.tr.ok,Nat.le_trans r.tr.size hg.size,r.tr.own⟩,fun k o hko=>(hne k (hX k o hko)).trans (r.keeps k o hko),Nat.le_trans r.big hg.size,[],hd0,List.nodup_nil,fun D hD=>by cases hD⟩
theorem foldl_set (enc:List Value) (ps:List Tmp) (tmps:Array Value) :
  ((ps.toArray.zip enc.toArray).foldl (fun t (x:Tmp × Value)=>t.setIfInBounds x.1 x.2) tmps) = (ps.zip enc).foldl (fun t x=>t.setIfInBounds x.1 x.2) tmps:=by
 simp [List.zip_toArray]
def setps (ps:List Tmp) (avs:List AV) (t:List AV):List AV:=(ps.zip avs).foldl (fun t p=>t.set p.1 p.2) t
theorem setps_pw:∀ (ps:List Tmp) (avs:List AV) (vs:List Value) (t:List AV) (tmps:Array Value),PW (AVR w bad h hd) avs vs -> PW (AVR w bad h hd) t tmps.toList ->
  PW (AVR w bad h hd) (setps ps avs t) ((ps.zip vs).foldl (fun t x=>t.setIfInBounds x.1 x.2) tmps).toList
 | [],avs,vs,t,tmps,_,ht=>by cases avs <;> cases vs <;> exact ht
 | p :: ps,[],vs,t,tmps,hp,ht=>by
  have:vs = []:=List.eq_nil_of_length_eq_zero hp.1.symm
  subst this;exact ht
 | p :: ps,x :: avs,[],t,tmps,hp,ht=>absurd hp.1 (by simp)
 | p :: ps,x :: avs,v :: vs,t,tmps,hp,ht=>by
  refine setps_pw ps avs vs _ _ ⟨by simpa using hp.1,fun i c u hc hu=>hp.2 (i + 1) c u (by simpa using hc) (by simpa using hu)⟩ ?_
  rw [Array.toList_setIfInBounds]
  exact ht.set p (hp.2 0 x v rfl rfl)
def rfX (X:Ctx) (st:St) (hd:Nat -> Value) (w:World) (hB:BW X w):Ctx :=
 { B0:=X.B0,w0:=w,M0:=X.M0,hM0:=X.hM0,hB0:=hB.1,hG:=hB.2,h0:=st.h,hd0:=hd,keep:=fun k o=>w.heap[k]? = some o /\ o.isCells = false,hkeep:=fun k o h=>h.2,rd:=none,hrd:=fun l h=>(by cases h),lo:=0 }
def rdX (X:Ctx) (st:St) (hd:Nat -> Value) (w:World) (hB:BW X w) (W:World) (l:Nat) (hl:∃ r,W.heap[l]? = some (.loop r)):Ctx :=
 { B0:=X.B0,w0:=w,M0:=X.M0,hM0:=X.hM0,hB0:=hB.1,hG:=hB.2,h0:=st.h,hd0:=hd,keep:=fun k o=>W.heap[k]? = some o /\ o.isCells = false,hkeep:=fun k o h=>h.2,rd:=some l,
   hrd:=fun l' h=>(by cases h;exact hl.elim fun r hr=>⟨r,hr,rfl⟩),lo:=W.heap.size }
theorem Fgt.heap_eq {t:List AV} {h h':List Blk} (e:h = h'):∃ t',Fgt n0 ⟨t,h⟩ ⟨t',h'⟩:=⟨t,.of_eq (by rw [e])⟩
def rfPost [Glb] (n0:Nat) (N:List Blk -> Prop) (R:Exit -> List Blk -> Prop):Exit -> St -> Prop
 | .normal,s=>∃ h',N h' /\ ∃ t,Fgt n0 s ⟨t,h'⟩
 | .ret,s=>R .ret s.h
 | .exit id,s=>R (.exit id) s.h
 | _,_=>False
theorem setps_eval {α:Type} {encs:α -> List AV} {enc:α -> List Value} {ps:Array Tmp} {W:World} {hh:List Blk} {hdI:Nat -> Value} {bad'':Nat -> Prop} {tm:Array Value} (henc:∀ x,PW (AVR w bad [] hd00) (encs x) (enc x)) (hs:PW (AVR w bad h hd) t tm.toList) (hTr:Tr w bad h hd W bad'' hh hdI) {x:α} :
  PW (AVR W bad'' hh hdI) (setps ps.toList (encs x) t) ((ps.zip ((enc x).toArray)).foldl (fun t (p,v)=>t.setIfInBounds p v) tm).toList:=by
 have e1:(ps.zip ((enc x).toArray)).foldl (fun t (p,v)=>t.setIfInBounds p v) tm = (ps.toList.zip (enc x)).foldl (fun t x=>t.setIfInBounds x.1 x.2) tm:=by
  rw [<- foldl_set]
 rw [e1]
 exact setps_pw _ _ _ _ _ ((henc x).mono (fun c v hc=>(hc.lift h hd).tr hTr)) (hs.mono (fun c v hc=>hc.tr hTr))
theorem rf_core {α:Type} {g':Operand} {ps':Array Tmp} {body:CC} {ca cb:Code} {Q:Exit -> St -> Prop} {gf:FuncId} {vs:List Value} (hcb:ccode P opn cb = some body) (r:Rel X st hd a w) (hev:a.eval g' = .func (.func gf) #[] vs.toArray)
  (hcall:∀ args w,(callFunc gf args).run P w = .ok (.enter gf args) w) {enc:α -> List Value} {S Sp:List α -> Prop} {N:Nat} (hseq:∀ n,SeqStopsK (Wd none) n P gf vs.toArray (fun x=>(enc x).toArray) (KpOf w (badOf X.M0 st.h hd)) S Sp N w)
  (hps:∀ x,((enc x).toArray).size = ps'.size) (Inv:List α -> List Blk -> Prop) (hInv0:Inv [] st.h) (R:List α -> Exit -> List Blk -> Prop) (slots:α -> List AV) (hBw:BW X w)
  (Ax:α -> Act -> World -> Prop) (hAx:∀ x a',OwnFrom w.heap.size (fun (_:Unit) W=>Ax x a' W))
  (hassign:∀ (F:Fence) {m:Nat} (l:Nat) (pre:List α) (x:α) (W:World) (K:Act -> World -> Prop),(∃ hh,Inv pre hh /\ ∃ hd',Rel (rfX X st hd w hBw) ⟨[],hh⟩ hd' ⟨#[],[]⟩ W) ->
   (∀ a' W',KeepsFrom w.heap.size W W' -> KpOf w (badOf X.M0 st.h hd) W W' -> (∃ hh,Inv pre hh /\ ∃ hd',Rel (rfX X st hd w hBw) ⟨[],hh⟩ hd' ⟨#[],[]⟩ W') -> Ax x a' W' -> K a' W') ->
   ca.wpIn F m P (Exit.then K (fun _ _ _=>False)) { tmps:=(ps'.zip ((enc x).toArray)).foldl (fun t (p,v)=>t.setIfInBounds p v) a.tmps,defers:=[] } W)
  (hslots:∀ (x:α) (a':Act) (W:World) (hh:List Blk) (hdI:Nat -> Value) (pre:List α),Inv pre hh -> Rel (rfX X st hd w hBw) ⟨[],hh⟩ hdI ⟨#[],[]⟩ W -> Ax x a' W -> PW (AVR W (badOf X.M0 hh hdI) hh hdI) (slots x) a'.tmps.toList /\ a'.defers = [])
  (hround:∀ pre x h,pre.length < N -> Inv pre h -> AWp P opn st.h.length body (rfPost st.h.length (Inv (pre ++ [x])) (R (pre ++ [x]))) ⟨slots x,h⟩)
  (hdone:∀ xs h,S xs -> Inv xs h -> Q .normal ⟨st.t,h⟩) (hstop:∀ e pre h',Sp pre -> R pre e h' -> Q e ⟨st.t,h'⟩) :
  (Code.rangeFunc g' ps' ca cb).wpIn (Wd X.rd) n P (fun e a' w'=>∃ st' hd',Q e st' /\ Rel X st' hd' a' w') a w:=by
 let X1:=rfX X st hd w hBw
 have hX1k:∀ k o,X1.keep k o -> k < X1.w0.heap.size:=fun k o hk=>(Array.getElem?_eq_some_iff.1 hk.1).1
 let I:List α -> World -> Prop:=fun pre W=>∃ hh,Inv pre hh /\ ∃ hd',Rel X1 ⟨[],hh⟩ hd' ⟨#[],[]⟩ W
 let Ix:Code -> List α -> World -> Prop:=fun c pre W=>∃ e h' hd',(c = .ret /\ e = .ret \/ ∃ id,c = .exit id /\ e = .exit id) /\ R pre e h' /\ Rel X1 ⟨[],h'⟩ hd' ⟨#[],[]⟩ W
 have hI:OwnFrom w.heap.size I:=fun s A B row hs hg hr=>by
  obtain ⟨hh,hi,hd',r'⟩:=hs
  exact ⟨hh,hi,hd',r'.own rfl hX1k hg hr⟩
 have hIx:∀ c,OwnFrom w.heap.size (Ix c):=fun c s A B row hs hg hr=>by
  obtain ⟨e,h',hd',h1,h2,r'⟩:=hs
  exact ⟨e,h',hd',h1,h2,r'.own rfl hX1k hg hr⟩
 have hI0:I [] w:=⟨st.h,hInv0,hd,Below.refl _ _,.nil,r.heap,Tr.refl _ _ _ _,fun k o hk=>hk.1,Nat.zero_le _,[],rfl,List.nodup_nil,fun D hD=>by cases hD⟩
 have hbody:∀ (l:Nat) (pre:List α) (x:α) (a':Act) (W:World),w.heap.size <= l -> (∃ r,W.heap[l]? = some (.loop r)) -> I pre W -> Ax x a' W -> pre.length < N ->
   ∀ m,cb.wpIn (Wd (some l)) m P (ownPostG w.heap.size (KpOf w (badOf X.M0 st.h hd)) I Ix (pre ++ [x]) W) a' W:=by
  rintro l pre x a' W hlw hl ⟨hh,hinv,hdI,rI⟩ hax hlen m
  have hTr:Tr w (badOf X.M0 st.h hd) st.h hd W (badOf X.M0 hh hdI) hh hdI:=rI.tr
  let X2:=rdX X st hd w hBw W l hl
  obtain ⟨hsl,hdf⟩:=hslots x a' W hh hdI pre hinv rI hax
  have r2:Rel X2 ⟨slots x,hh⟩ hdI a' W:=⟨rI.below,hsl,rI.heap,rI.tr,fun k o hk=>hk.1,Nat.le_refl _,[],by rw [hdf];rfl,List.nodup_nil,fun D hD=>by cases hD⟩
  refine wpIn_mono (hround pre x hh hlen hinv cb hcb X2 m hdI _ W rfl r2) ?_
  rintro e a3 W3 ⟨s,hd3,q,r3⟩
  have kf:KeepsFrom w.heap.size W W3:=⟨r3.big,fun k o _ hk ho=>r3.keeps k o ⟨hk,ho⟩⟩
  have kp:KpOf w (badOf X.M0 st.h hd) W W3:=⟨r3.big,fun g hgl hnb cs t o hc=>by
   have h1:=rI.tr.blk g hnb hgl
   have h3:=r3.tr.blk g hnb hgl
   exact (h3.trans h1.symm).trans hc⟩
  have back:∀ {s':St} {hd':Nat -> Value},Rel X2 s' hd' a3 W3 -> Rel X1 ⟨[],s'.h⟩ hd' ⟨#[],[]⟩ W3:=fun r4 =>
   ⟨r4.below,.nil,r4.heap,r4.tr,fun k o hk=>r4.keeps k o ⟨rI.keeps k o hk,hk.2⟩,Nat.zero_le _,[],rfl,List.nodup_nil,fun D hD=>by cases hD⟩
  cases e with
  | normal =>
   obtain ⟨h3,hinv',t,hf⟩:=q
   obtain ⟨hd4,r4⟩:=hf X2 hd3 a3 W3 rfl r3
   exact ⟨kf,kp,h3,hinv',hd4,back r4⟩
  | ret=>exact ⟨kf,.ret,s.h,hd3,.inl ⟨rfl,rfl⟩,q,back r3⟩
  | exit id=>exact ⟨kf,.exit id,s.h,hd3,.inr ⟨id,rfl,rfl⟩,q,back r3⟩
  | goto t=>exact q.elim
  | panic ch=>exact q.elim
  | outgrown=>exact q.elim
 have fin:∀ {h':List Blk} {hd':Nat -> Value} {W:World} (ds:List Nat),(∀ D ∈ ds,w.heap.size <= D /\ W.heap[D]? = some (.deferred (some []))) -> ds.Nodup -> Rel X1 ⟨[],h'⟩ hd' ⟨#[],[]⟩ W -> Rel X ⟨st.t,h'⟩ hd' { a with defers:=ds.map markOf ++ a.defers } W:=fun ds hds hnd r1=>by
  obtain ⟨Ds,hD,hN,hDs⟩:=r.marks
  refine ⟨r.below.trans r1.below,r.slots.mono (fun c v hc=>hc.tr r1.tr),r1.heap,r.tr.trans r1.tr,fun k o hk=>r1.keeps k o ⟨r.keeps k o hk,X.hkeep k o hk⟩,Nat.le_trans r.big r1.tr.size,ds ++ Ds,by simp [hD],?_,fun D hDm=>?_⟩
  ·refine List.nodup_append.2 ⟨hnd,hN,fun x hx y hy e=>?_⟩
   subst e
   have h1:=(hds x hx).1
   have h2:=(Array.getElem?_eq_some_iff.1 (hDs x hy).2).1
   omega
  ·rcases List.mem_append.1 hDm with hm | hm
   ·exact ⟨Nat.le_trans r.below.size (hds D hm).1,(hds D hm).2⟩
   ·exact ⟨(hDs D hm).1,r1.keeps D _ ⟨(hDs D hm).2,rfl⟩⟩
 have hKt:∀ {A B C:World},KpOf w (badOf X.M0 st.h hd) A B -> KpOf w (badOf X.M0 st.h hd) B C -> KpOf w (badOf X.M0 st.h hd) A C:=fun h k=>⟨Nat.le_trans h.1 k.1,fun g hg hb cs t o hc=>k.2 g hg hb cs t o (h.2 g hg hb cs t o hc)⟩
 have hKb:∀ (W:World) (l:Nat) (o o':Obj),w.heap.size <= l -> W.heap[l]? = some o -> o.isCells = false -> o.isWalk = false -> KpOf w (badOf X.M0 st.h hd) W (W.putObj l o'):=fun W l o o' hl ho hc hw =>
  ⟨by simp [World.putObj],fun g hg _ cs t o2 hc2=>by rw [World.putObj_heap_other (by omega)];exact hc2⟩
 have hKr:∀ W,KpOf w (badOf X.M0 st.h hd) W W:=fun W=>⟨Nat.le_refl _,fun _ _ _ _ _ _ h=>h⟩
 have stop:∀ {c:Code} {e:Exit} {a':Act} {W:World} {m:Nat} {Q':Exit -> Act -> World -> Prop},(c = .ret /\ e = .ret \/ ∃ id,c = .exit id /\ e = .exit id) -> Q' e a' W -> c.wpIn (Wd X.rd) m P Q' a' W:=fun hce hq=>by
  rcases hce with ⟨rfl,rfl⟩ | ⟨id,rfl,rfl⟩
  ·exact wpIn_ret hq
  ·exact wpIn_exit hq
 cases hrd:X.rd with
 | none =>
  refine wd_n (n:=5) ?_ n
  refine wpIn_rangeFunc_ownH (F:=Wd none) rfl (by omega) hev trivial (fun args w=>hcall args w) (hseq 4) (fun h k=>hKt h k) hKb (Below.refl _ _) hps I Ix hI hIx hI0 Ax hAx
   (fun l pre x W K hi hK=>hassign _ l pre x W K hi hK) (fun l pre x a' W hlw hl hi ha hlen=>hbody l pre x a' W hlw hl hi ha hlen _) ?_ ?_
  ·rintro D xs W hD hS ⟨hh,hinv,hd',r1⟩ hWD
   exact ⟨_,hd',hdone xs hh hS hinv,fin [D] (fun D' hD'=>by simp at hD';subst hD';exact ⟨hD,hWD⟩) (by simp) r1⟩
  ·rintro D c pre W hD hSp ⟨e,h',hd',hce,hR,r1⟩ hWD
   have hst:=stop (m:=5) (a':={ a with defers:={ target:=.collected D,args:=#[] } :: a.defers }) (W:=W) (Q':=fun e a' w'=>∃ st' hd',Q e st' /\ Rel X st' hd' a' w') hce ⟨_,hd',hstop e pre h' hSp hR,fin [D] (fun D' hD'=>by simp at hD';subst hD';exact ⟨hD,hWD⟩) (by simp) r1⟩
   rw [hrd] at hst
   exact hst
 | some l₀ =>
  obtain ⟨r₀,hk₀⟩:=X.hrd l₀ hrd
  have hl₀:=r.keeps _ _ hk₀
  refine wd_n (n:=5) ?_ n
  refine wpIn_rangeFunc_ownN (F:=Wd (some l₀)) rfl hl₀ (by omega) hev trivial (fun args w=>hcall args w) (SeqStopsK.inRound l₀ (hseq 4)) (fun h k=>hKt h k) hKb (Below.refl _ _) hps I Ix hI hIx hI0 Ax hAx
   (fun l pre x W K hi hK=>hassign _ l pre x W K hi hK) (fun l pre x a' W hlw hl hi ha hlen=>hbody l pre x a' W hlw hl hi ha hlen _) ?_ ?_
  ·rintro xs W hS ⟨hh,hinv,hd',r1⟩
   exact ⟨_,hd',hdone xs hh hS hinv,fin [] (fun D' hD'=>by cases hD') (by simp) r1⟩
  ·rintro c pre W hSp ⟨e,h',hd',hce,hR,r1⟩
   have hst:=stop (m:=5) (a':=a) (W:=W) (Q':=fun e a' w'=>∃ st' hd',Q e st' /\ Rel X st' hd' a' w') hce ⟨_,hd',hstop e pre h' hSp hR,fin [] (fun D' hD'=>by cases hD') (by simp) r1⟩
   rw [hrd] at hst
   exact hst
theorem awp_rf {α:Type} {g:Operand} {ps:List Tmp} {ms:List (Tmp × Tmp)} {body:CC} {Q:Exit -> St -> Prop} {gf:FuncId} {caps:List Cell} (hg:st.ev g = .one (.fn gf caps)) (hcaps:∀ c ∈ caps,closedCell c = true) {encs:α -> List AV} {S Sp:List α -> Prop} {N:Nat}
  (hit:IterC P gf caps encs ps.length S Sp N) (Inv:List α -> List Blk -> Prop) (hInv0:Inv [] st.h) (R:List α -> Exit -> List Blk -> Prop)
  (hround:∀ pre x h,pre.length < N -> Inv pre h -> AWp P opn st.h.length body (rfPost st.h.length (Inv (pre ++ [x])) (R (pre ++ [x]))) ⟨mvT ms (setps ps (encs x) st.t),h⟩)
  (hdone:∀ xs h,S xs -> Inv xs h -> Q .normal ⟨st.t,h⟩) (hstop:∀ e pre h',Sp pre -> R pre e h' -> Q e ⟨st.t,h'⟩):AWp P opn n0 (.rf g ps ms body) Q st:=by
 intro code hc X n hd a w hX r
 cases code with
 | rangeFunc g' ps' ca cb =>
  simp only [ccode] at hc
  split at hc
  ·rename_i ms' b' hms hcb
   simp only [Option.some.injEq,CC.rf.injEq] at hc
   obtain ⟨rfl,rfl,rfl,rfl⟩:=hc
   have hBw:BW X w:=r.bw
   have hgv:=r.sees g'
   rw [hg] at hgv
   obtain ⟨hcall,hnp,hit⟩:=hit
   have hbadlt:∀ g,badOf X.M0 st.h hd g -> g < w.heap.size:=fun g hg=>by
    rcases hg with hm | ⟨b,k,hk,_,hb⟩
    ·exact r.M0_lt g hm
    ·exact (r.heap.lt hk hb).2
   obtain ⟨vs,hev,hvs⟩:∃ vs:List Value,a.eval g' = .func (.func gf) #[] vs.toArray /\ PW (VR w (badOf X.M0 st.h hd) [] hd00) caps vs:=by
    generalize a.eval g' = u at hgv
    cases hgv with
    | one _ _ hx =>
     cases hx with
     | fn _ _ vs hl hv=>exact ⟨vs,rfl,hl,fun i c v h1 h2=>(hv i c v h1 h2).closed (hcaps c (List.mem_of_getElem? h1))⟩
   obtain ⟨enc,henc,hseq⟩:=hit w _ vs ⟨hbadlt,r.gbad⟩ hvs
   have hps:∀ x,((enc x).toArray).size = ps'.size:=fun x=>by
    have h1:=(henc x).1
    have h2:=hnp x
    simp only [List.size_toArray]
    rw [<- h1,h2]
    simp
   refine rf_core hcb r hev hcall hseq hps Inv hInv0 R (fun x=>mvT ms' (setps ps'.toList (encs x) st.t)) hBw (fun x a' _=>a' = mvA ms' { tmps:=(ps'.zip ((enc x).toArray)).foldl (fun t (p,v)=>t.setIfInBounds p v) a.tmps,defers:=[] }) (fun _ _ _ _ _ _ hs _ _=>hs)
    (fun F m l pre x W K hi hK=>moves_ok _ hms (hK _ _ (KeepsFrom.refl _ _) ⟨Nat.le_refl _,fun _ _ _ _ _ _ h=>h⟩ hi rfl)) ?_ hround hdone hstop
   rintro x a' W hh hdI pre hinv rI rfl
   have hTr:Tr w (badOf X.M0 st.h hd) st.h hd W (badOf X.M0 hh hdI) hh hdI:=rI.tr
   refine ⟨mv_pw ms' _ _ ?_,by rw [mvA_defers]⟩
   exact setps_eval henc r.slots hTr
  ·cases hc
  ·cases hc
 | region id ops drawn=>simp only [ccode] at hc;rcases regCC_kind hc with ⟨_,h⟩ | ⟨_,_,h⟩ <;> cases h
 | seq c x=>simp only [ccode] at hc;split at hc <;> cases hc
 | cond c x y=>simp only [ccode] at hc;split at hc <;> cases hc
 | block id c=>simp [ccode] at hc
 | scope c=>simp [ccode] at hc
 | loop c=>simp [ccode] at hc
 | _=>cases hc
end Go.Am
namespace Go.Am
open Go.RowKit Go.Off
variable {GL:Glb}
variable {P:Program} {opn:List FuncId} {h h':List Blk} {st st':St} {n n0:Nat} {α:Type} {e:Nat} {f:α -> List CV}
def encSl {α:Type} (e:Nat) (f:α -> List CV):Option (List α) -> CV
 | none=>.val (.slice none 0 0)
 | some l=>.sl e (l.map f)
def encB {α:Type} (f:α -> List CV) (l:List α):List (List Cell):=l.map fun x=>(f x).map .c
theorem lenAV_enc (a:Option (List α)):lenAV h false (.one (.c (encSl e f a))) = some (osl a).length:=by
 cases a <;> simp [encSl,lenAV,osl]
theorem isNilAV_enc (a:Option (List α)):isNilAV h false (.one (.c (encSl e f a))) = some a.isNone:=by
 cases a <;> rfl
theorem iaddr_enc (a:Option (List α)) {j:Int} (h0:0 <= j) (h1:j.toNat < (osl a).length) :
  iaddrAV h e none (.one (.c (encSl e f a))) j = some (.one (.iptr (f ((osl a)[j.toNat]'h1)))):=by
 cases a with
 | none=>simp [osl] at h1
 | some l =>
  have h1':j.toNat < l.length:=h1
  simp [encSl,iaddrAV,h0,h1',osl]
theorem elems_enc (a:Option (List α)):elems h e (.one (.c (encSl e f a))) = some (encB f (osl a)):=by
 cases a with
 | none=>rfl
 | some l=>simp [encSl,elems,encB,osl,Function.comp_def]
theorem cut_enc_all (a:Option (List α)):cutAV e (.one (.c (encSl e f a))) none none = some (.one (.c (encSl e f a))):=by
 cases a with
 | none=>rfl
 | some l =>
  have e1:List.take l.length (List.map f l) = List.map f l:=List.take_of_length_le (by simp)
  simp [encSl,cutAV,bound,e1]
theorem cut_enc_hi (a:Option (List α)) {k:IntKind} {j:Int} (h0:0 <= j) (h1:j <= (osl a).length) :
  cutAV e (.one (.c (encSl e f a))) none (some (.one (.c (.val (.int k j))))) = some (.one (.c (encSl e f (a.map (·.take j.toNat))))):=by
 cases a with
 | none =>
  have hj:j = 0:=by simp [osl] at h1;omega
  subst hj
  rfl
 | some l =>
  have h1':j <= (l.length:Int):=h1
  simp [encSl,cutAV,bound,AV.int?,h0,h1',List.map_take]
theorem cut_enc_lo (a:Option (List α)) {k:IntKind} {j:Int} (h0:0 <= j) (h1:j <= (osl a).length) :
  cutAV e (.one (.c (encSl e f a))) (some (.one (.c (.val (.int k j))))) none = some (.one (.c (encSl e f (a.map (·.drop j.toNat))))):=by
 cases a with
 | none =>
  have hj:j = 0:=by simp [osl] at h1;omega
  subst hj
  rfl
 | some l =>
  have h1':j <= (l.length:Int):=h1
  have e1:List.take l.length (List.map f l) = List.map f l:=List.take_of_length_le (by simp)
  simp [encSl,cutAV,bound,AV.int?,h0,h1',List.map_drop,e1]
theorem encB_length (l:List α):(encB f l).length = l.length:=by simp [encB]
theorem encB_get (l:List α) {i:Nat} (hi:i < l.length):(encB f l)[i]? = some ((f l[i]).map .c):=by simp [encB,hi]
theorem encB_append (l m:List α):encB f l ++ encB f m = encB f (l ++ m):=by simp [encB]
theorem encB_set (l:List α) (i:Nat) (x:α):(encB f l).set i ((f x).map .c) = encB f (l.set i x):=by simp [encB,List.map_set]
theorem encB_replicate (n:Nat) (x:α):encB f (List.replicate n x) = List.replicate n ((f x).map .c):=by simp [encB]
theorem encB_take (l:List α) (n:Nat):(encB f l).take n = encB f (l.take n):=by simp [encB,List.map_take]
theorem encB_nil:encB f [] = []:=rfl
theorem encB_isEmpty (l:List α):(encB f l).isEmpty = l.isEmpty:=by cases l <;> rfl
theorem encB_eq (l:List α):encB f l = (l.map f).map (·.map Cell.c):=by simp [encB,Function.comp_def]
theorem iaddr_own {b ver ty:Nat} {live nn:Bool} {l:List α} {j:Int} (hk:h[b]? = some ⟨ver,ty,e,encB f l,live,nn⟩) (h0:0 <= j) (h1:j < l.length) :
  iaddrAV h e none (.one (.own b ver)) j = some (.one (.ptr b ver j.toNat 0)):=by
 simp [iaddrAV,hk,h0,h1,encB_length]
theorem mapM_encB (n:Nat) (l:List α):(encB f l).mapM (fun r=>r.mapM (closeCV h n)) = some (l.map f):=by rw [encB_eq,mapM_rows_c]
theorem close_own {b ver ty n:Nat} {live:Bool} {l:List α} (hk:h[b]? = some ⟨ver,ty,e,encB f l,live,true⟩) (h0:0 < e):closeAV h (n + 1) (.one (.own b ver)) = some (.one (.c (encSl e f (some l)))):=by
 simp only [closeAV,closeFn,closeCell,closeCV,hk,h0,and_self,if_true,mapM_encB,Option.map_some,encSl]
theorem close_own_nn {b ver ty n:Nat} {live nn:Bool} {l:List α} (hk:h[b]? = some ⟨ver,ty,e,encB f l,live,nn⟩) (h0:0 < e):closeAV h (n + 1) (.one (.own b ver)) = some (.one (.c (encSl e f (if nn then some l else none)))):=by
 cases nn
 ·simp [closeAV,closeFn,closeCell,closeCV,hk,h0,encSl]
 ·simp only [closeAV,closeFn,closeCell,closeCV,hk,h0,and_self,if_true,mapM_encB,Option.map_some,encSl]
theorem used_own {b ver ty n:Nat} {live nn:Bool} {l:List α} (hk:h[b]? = some ⟨ver,ty,e,encB f l,live,nn⟩):usedAV h (n + 1) (.one (.own b ver)) = [b]:=by
 simp [usedAV,usedFn,usedCell,usedCV,hk,encB_eq,used_rows_c]
theorem used_c1 {n:Nat} (x:CV):usedAV h n (.one (.c x)) = []:=by
 cases n <;> rfl
theorem Ends.fresh_enc {b ver e:Nat} {ty:TypeId} {l:List α} {nn:Bool} (hk:h[b]? = some ⟨ver,ty,e,encB f l,true,nn⟩):Ends h (.one (.own b ver)) (.fresh ty e (l.map f) nn) :=
 Ends.fresh_c (by rw [hk,encB_eq])
theorem opV_flat {t:List AV} {f:FuncId} {args:List Operand} {as cas:List AV} {av:AV} {K:AV -> List Blk -> Prop} (ha:callArgs ⟨t,h⟩ (.func f) args = some (f,as)) (hcl:as.mapM (closeAV h 3) = some cas)
  (hp:PureC P f cas (.ret av)) (hf:flatAV av = true) (hK:K av h):∃ x h',OpV P opn t h (.callf (.func f) args) x h' /\ K x h':=by
 refine opV_pure ha hcl hp ?_
 simp only [pureRes,hf,if_true]
 exact hK
theorem opV_closed {t:List AV} {f:FuncId} {args:List Operand} {as cas:List AV} {av:AV} {ids:List Nat} {K:AV -> List Blk -> Prop} (ha:callArgs ⟨t,h⟩ (.func f) args = some (f,as)) (hcl:as.mapM (closeAV h 3) = some cas)
  (hu:(as.map (usedAV h 3)).flatten = ids) (hp:PureC P f cas (.ret av)) (hf:flatAV av = false) (hK:K av (freeze ids h)):∃ x h',OpV P opn t h (.callf (.func f) args) x h' /\ K x h':=by
 refine opV_pure ha hcl hp ?_
 subst hu
 simp only [pureRes,hf]
 exact hK
theorem opV_new {t:List AV} {f:FuncId} {args:List Operand} {as cas:List AV} {ty:TypeId} {e:Nat} {l:List (List CV)} {nn:Bool} {ids:List Nat} {K:AV -> List Blk -> Prop} (ha:callArgs ⟨t,h⟩ (.func f) args = some (f,as)) (hcl:as.mapM (closeAV h 3) = some cas)
  (hu:(as.map (usedAV h 3)).flatten = ids) (hp:PureC P f cas (.fresh ty e l nn)) (hK:K (.one (.own h.length 0)) (freeze ids h ++ [⟨0,ty,e,l.map (·.map .c),true,nn⟩])):∃ x h',OpV P opn t h (.callf (.func f) args) x h' /\ K x h':=by
 refine opV_pure ha hcl hp ?_
 subst hu
 exact hK
theorem wi64 {n:Int} (h1 : -9223372036854775808 <= n) (h2:n <= 9223372036854775807):IntKind.i64.wrap n = n:=by rw [IntKind.wrap_i64];omega
theorem wu64 {n:Int} (h1:0 <= n) (h2:n <= 18446744073709551615):IntKind.u64.wrap n = n:=by simp [IntKind.wrap,IntKind.bits,IntKind.signed];omega
theorem wu8 {n:Int} (h1:0 <= n) (h2:n <= 255):IntKind.u8.wrap n = n:=by rw [IntKind.wrap_u8];omega
theorem wu32 {n:Int} (h1:0 <= n) (h2:n <= 4294967295):IntKind.u32.wrap n = n:=by rw [IntKind.wrap_u32];omega
theorem wu32_of (n:Int):IntKind.u32.wrap n = ((UInt32.ofNat (n % 4294967296).toNat).toNat:Int):=by
 rw [IntKind.wrap_u32]
 have:(n % 4294967296).toNat < 4294967296:=by omega
 simp [UInt32.toNat_ofNat,Nat.mod_eq_of_lt this]
 omega
theorem iltT {a b:Int} (h:a < b):(a < b) = True:=eq_true h
theorem iltF {a b:Int} (h:b <= a):(a < b) = False:=eq_false (by omega)
theorem ileT {a b:Int} (h:a <= b):(a <= b) = True:=eq_true h
theorem ileF {a b:Int} (h:b < a):(a <= b) = False:=eq_false (by omega)
theorem ieqT {a b:Int} (h:a = b):(a = b) = True:=eq_true h
theorem ieqF {a b:Int} (h:a ≠ b):(a = b) = False:=eq_false h
theorem nltT {a b:Nat} (h:a < b):(a < b) = True:=eq_true h
theorem nltF {a b:Nat} (h:b <= a):(a < b) = False:=eq_false (by omega)
theorem nleT {a b:Nat} (h:a <= b):(a <= b) = True:=eq_true h
theorem nleF {a b:Nat} (h:b < a):(a <= b) = False:=eq_false (by omega)
theorem neqT {a b:Nat} (h:a = b):(a = b) = True:=eq_true h
theorem neqF {a b:Nat} (h:a ≠ b):(a = b) = False:=eq_false h
theorem ibeqT {a b:Int} (h:a = b):(a == b) = true:=by simp [h]
theorem ibeqF {a b:Int} (h:a ≠ b):(a == b) = false:=by simp [h]
theorem ibneT {a b:Int} (h:a ≠ b):(a != b) = true:=by simp [h]
theorem ibneF {a b:Int} (h:a = b):(a != b) = false:=by simp [h]
end Go.Am
namespace Go.Am
open Go.RowKit Go.Off
variable {GL:Glb}
variable {P:Program} {opn:List FuncId} {h h':List Blk} {st st':St} {n n0 m:Nat} {α:Type} {e:Nat} {f:α -> List CV}
def liveT (m:Nat):List Bool -> List AV -> List AV
 | true :: ls,x :: t=>cleanAV m x :: liveT m ls t
 | false :: ls,_ :: t=>.junk :: liveT m ls t
 | [],_ :: t=>.junk :: liveT m [] t
 | _,[]=>[]
theorem liveT_get (m:Nat):∀ (ls:List Bool) (t:List AV) (i:Nat) (y:AV),(liveT m ls t)[i]? = some y -> ∃ x,t[i]? = some x /\ (y = .junk \/ y = cleanAV m x)
 | true :: ls,x :: t,0,y,h=>⟨x,rfl,.inr (by simpa [liveT] using h.symm)⟩
 | false :: ls,x :: t,0,y,h=>⟨x,rfl,.inl (by simpa [liveT] using h.symm)⟩
 | [],x :: t,0,y,h=>⟨x,rfl,.inl (by simpa [liveT] using h.symm)⟩
 | true :: ls,x :: t,i + 1,y,h=>liveT_get m ls t i y (by simpa [liveT] using h)
 | false :: ls,x :: t,i + 1,y,h=>liveT_get m ls t i y (by simpa [liveT] using h)
 | [],x :: t,i + 1,y,h=>liveT_get m [] t i y (by simpa [liveT] using h)
 | true :: ls,[],i,y,h=>by simp [liveT] at h
 | false :: ls,[],i,y,h=>by simp [liveT] at h
 | [],[],i,y,h=>by simp [liveT] at h
theorem liveT_length (m:Nat):∀ (ls:List Bool) (t:List AV),(liveT m ls t).length = t.length
 | true :: ls,x :: t=>by simp [liveT,liveT_length m ls t]
 | false :: ls,x :: t=>by simp [liveT,liveT_length m ls t]
 | [],x :: t=>by simp [liveT,liveT_length m [] t]
 | true :: ls,[]=>rfl
 | false :: ls,[]=>rfl
 | [],[]=>rfl
theorem Fgt.junk {t t':List AV} {h:List Blk} (hl:t'.length = t.length) (hj:∀ (i:Nat) (y:AV),t'[i]? = some y -> ∃ x,t[i]? = some x /\ (y = .junk \/ y = x)):Fgt n0 ⟨t,h⟩ ⟨t',h⟩:=fun X hd a w hX r =>
 ⟨hd,r.below,⟨by rw [<- r.slots.1];exact hl,fun i c v hc hv=>by
  obtain ⟨x,hx,rfl | rfl⟩:=hj i c hc
  ·exact .junk _
  ·exact r.slots.2 i _ v hx hv⟩,r.heap,r.tr,r.keeps,r.big,r.marks⟩
theorem Fgt.live (hn:n0 <= m) (ls:List Bool) (t:List AV) (h:List Blk):Fgt n0 ⟨t,h⟩ ⟨liveT m ls t,(h.take m).map (cleanBlk m)⟩:=by
 refine (Fgt.norm hn [] ⟨t,h⟩).trans (Fgt.junk ?_ (fun i y hy=>?_))
 ·rw [liveT_length];simp [cleanT]
 ·obtain ⟨x,hx,hy'⟩:=liveT_get m ls t i y hy
  exact ⟨cleanAV m x,by simp [cleanT,hx],hy'⟩
theorem clean_encB (l:List α):(encB f l).map (fun r=>r.map (cleanCell m)) = encB f l:=by
 simp [encB,Function.comp_def,cleanCell,clean1]
theorem Fgt.head (hn:n0 <= m) (ls:List Bool) {t t':List AV} {h h':List Blk} (ht:liveT m ls t = t') (hh:(h.take m).map (cleanBlk m) = h'):Fgt n0 ⟨t,h⟩ ⟨t',h'⟩:=by
 subst ht;subst hh;exact Fgt.live hn ls t h
end Go.Am
