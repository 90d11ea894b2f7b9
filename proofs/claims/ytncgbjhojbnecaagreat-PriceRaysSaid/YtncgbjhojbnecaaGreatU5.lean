/- The abstract memory: typed data in slices, as functions. -/
import Derived.Deep.Slices
import Derived.Deep.Strs
import Derived.ChangeSame
import Derived.DataReads
import Derived.Test.YtncgbjhojbnecaaGreatU3
import Derived.Test.YtncgbjhojbnecaaGreatU4
set_option linter.unusedSimpArgs false
set_option linter.unusedVariables false
set_option linter.unnecessarySimpa false
open Option renaming none -> QA, some -> PA, map_eq_some_iff -> AA
open Bool renaming false -> TA, true -> SA, false_eq_true -> IA, not_false -> LA, or_true -> KA, and_eq_true -> JA
open List renaming replicate -> jA, length_append -> sA, length_cons -> oA, length_nil -> pA, set_cons_zero -> mA, set_cons_succ -> lA, nil_append -> qA, cons_append -> rA, length_replicate -> tA, length_map -> eA, getElem?_eq_getElem -> aA, getElem?_eq_some_iff -> dA, mem_range -> zA, mem_map -> yA, map_map -> uA, isEmpty_cons -> kA
open Option.some renaming injEq -> BA
open Prod.mk renaming injEq -> MA
open Nat renaming le_refl -> EA, zero_le -> fN, le_trans -> GA
open Int renaming toNat_of_nonneg -> OA, natCast_add -> NA
namespace Go.Am
open Go.RowKit Go.Off
variable {GL:Glb}
variable {P:Program} {opn:List FuncId} {h h':List Blk} {st st':St} {n n0:Nat} {α:Type} {e:Nat} {f:α -> List CV}
def jB {α:Type} (e:Nat) (f:α -> List CV):Option (List α) -> CV
 | none=>.val (.slice QA 0 0)
 | some l=>.sl e (l.map f)
def wB {α:Type} (f:α -> List CV) (l:List α):List (List Cell):=l.map fun x=>(f x).map .c
theorem lenAV_enc (a:Option (List α)):OF h TA (.one (.c (jB e f a))) = PA (UA a).length:=by
 cases a <;> simp [jB,OF,UA]
theorem isNilAV_enc (a:Option (List α)):vE h TA (.one (.c (jB e f a))) = PA a.isNone:=by
 cases a <;> rfl
theorem iaddr_enc (a:Option (List α)) {j:Int} (h0:0 <= j) (h1:j.toNat < (UA a).length) :
  nI h e QA (.one (.c (jB e f a))) j = PA (.one (.iptr (f ((UA a)[j.toNat]'h1)))):=by
 cases a with
 | none=>simp [UA] at h1
 | some l =>
  have h1':j.toNat < l.length:=h1
  simp [jB,nI,h0,h1',UA]
theorem elems_enc (a:Option (List α)):QD h e (.one (.c (jB e f a))) = PA (wB f (UA a)):=by
 cases a with
 | none=>rfl
 | some l=>simp [jB,QD,wB,UA,Function.comp_def]
theorem cut_enc_all (a:Option (List α)):UI e (.one (.c (jB e f a))) QA QA = PA (.one (.c (jB e f a))):=by
 cases a with
 | none=>rfl
 | some l =>
  have e1:List.take l.length (List.map f l) = List.map f l:=List.take_of_length_le (by simp)
  simp [jB,UI,ND,e1]
theorem cut_enc_hi (a:Option (List α)) {k:IntKind} {j:Int} (h0:0 <= j) (h1:j <= (UA a).length) :
  UI e (.one (.c (jB e f a))) QA (PA (.one (.c (.val (.int k j))))) = PA (.one (.c (jB e f (a.map (·.take j.toNat))))):=by
 cases a with
 | none =>
  have hj:j = 0:=by simp [UA] at h1;omega
  subst hj
  rfl
 | some l =>
  have h1':j <= (l.length:Int):=h1
  simp [jB,UI,ND,AV.int?,h0,h1',List.map_take]
theorem cut_enc_lo (a:Option (List α)) {k:IntKind} {j:Int} (h0:0 <= j) (h1:j <= (UA a).length) :
  UI e (.one (.c (jB e f a))) (PA (.one (.c (.val (.int k j))))) QA = PA (.one (.c (jB e f (a.map (·.drop j.toNat))))):=by
 cases a with
 | none =>
  have hj:j = 0:=by simp [UA] at h1;omega
  subst hj
  rfl
 | some l =>
  have h1':j <= (l.length:Int):=h1
  have e1:List.take l.length (List.map f l) = List.map f l:=List.take_of_length_le (by simp)
  simp [jB,UI,ND,AV.int?,h0,h1',List.map_drop,e1]
theorem HG (l:List α):(wB f l).length = l.length:=by simp [wB]
theorem encB_get (l:List α) {i:Nat} (hi:i < l.length):(wB f l)[i]? = PA ((f l[i]).map .c):=by simp [wB,hi]
theorem XC (l m:List α):wB f l ++ wB f m = wB f (l ++ m):=by simp [wB]
theorem SE (l:List α) (i:Nat) (x:α):(wB f l).set i ((f x).map .c) = wB f (l.set i x):=by simp [wB,List.map_set]
theorem TE (n:Nat) (x:α):wB f (jA n x) = jA n ((f x).map .c):=by simp [wB]
theorem encB_take (l:List α) (n:Nat):(wB f l).take n = wB f (l.take n):=by simp [wB,List.map_take]
theorem CE:wB f [] = []:=rfl
theorem encB_isEmpty (l:List α):(wB f l).isEmpty = l.isEmpty:=by cases l <;> rfl
theorem jH (l:List α):wB f l = (l.map f).map (·.map Cell.c):=by simp [wB,Function.comp_def]
theorem NK (n:Nat) (l:List α):(wB f l).mapM (fun r=>r.mapM (XB h n)) = PA (l.map f):=by rw [jH,mK]
theorem bT {b ver ty n:Nat} {live:Bool} {l:List α} (hk:h[b]? = PA ⟨ver,ty,e,wB f l,live,SA⟩) (h0:0 < e):VB h (n + 1) (.one (.own b ver)) = PA (.one (.c (jB e f (PA l)))):=by
 simp only [VB,yE,jC,XB,hk,h0,and_self,if_true,NK,Option.map_some,jB]
theorem OM {b ver ty n:Nat} {live nn:Bool} {l:List α} (hk:h[b]? = PA ⟨ver,ty,e,wB f l,live,nn⟩) (h0:0 < e):VB h (n + 1) (.one (.own b ver)) = PA (.one (.c (jB e f (if nn then PA l else QA)))):=by
 cases nn
 ·simp [VB,yE,jC,XB,hk,h0,jB]
 ·simp only [VB,yE,jC,XB,hk,h0,and_self,if_true,NK,Option.map_some,jB]
theorem used_own {b ver ty n:Nat} {live nn:Bool} {l:List α} (hk:h[b]? = PA ⟨ver,ty,e,wB f l,live,nn⟩):kC h (n + 1) (.one (.own b ver)) = [b]:=by
 simp [kC,fJ,DC,EC,hk,jH,cK]
theorem JD.fresh_enc {b ver e:Nat} {ty:TypeId} {l:List α} {nn:Bool} (hk:h[b]? = PA ⟨ver,ty,e,wB f l,SA,nn⟩):JD h (.one (.own b ver)) (.fresh ty e (l.map f) nn) :=
 JD.fresh_c (by rw [hk,jH])
theorem opV_flat {t:List AV} {f:FuncId} {args:List Operand} {as cas:List AV} {av:AV} {K:AV -> List Blk -> Prop} (ha:sC ⟨t,h⟩ (.func f) args = PA (f,as)) (hcl:as.mapM (VB h 3) = PA cas)
  (hp:YA P f cas (.ret av)) (hf:LE av = SA) (hK:K av h):∃ x h',XH P opn t h (.callf (.func f) args) x h' /\ K x h':=by
 refine pQ ha hcl hp ?_
 simp only [CD,hf,if_true]
 exact hK
theorem qQ {t:List AV} {f:FuncId} {args:List Operand} {as cas:List AV} {av:AV} {ids:List Nat} {K:AV -> List Blk -> Prop} (ha:sC ⟨t,h⟩ (.func f) args = PA (f,as)) (hcl:as.mapM (VB h 3) = PA cas)
  (hu:(as.map (kC h 3)).flatten = ids) (hp:YA P f cas (.ret av)) (hf:LE av = TA) (hK:K av (freeze ids h)):∃ x h',XH P opn t h (.callf (.func f) args) x h' /\ K x h':=by
 refine pQ ha hcl hp ?_
 subst hu
 simp only [CD,hf]
 exact hK
theorem opV_new {t:List AV} {f:FuncId} {args:List Operand} {as cas:List AV} {ty:TypeId} {e:Nat} {l:List (List CV)} {nn:Bool} {ids:List Nat} {K:AV -> List Blk -> Prop} (ha:sC ⟨t,h⟩ (.func f) args = PA (f,as)) (hcl:as.mapM (VB h 3) = PA cas)
  (hu:(as.map (kC h 3)).flatten = ids) (hp:YA P f cas (.fresh ty e l nn)) (hK:K (.one (.own h.length 0)) (freeze ids h ++ [⟨0,ty,e,l.map (·.map .c),SA,nn⟩])):∃ x h',XH P opn t h (.callf (.func f) args) x h' /\ K x h':=by
 refine pQ ha hcl hp ?_
 subst hu
 exact hK
theorem wi64 {n:Int} (h1 : -9223372036854775808 <= n) (h2:n <= 9223372036854775807):IntKind.i64.wrap n = n:=by rw [IntKind.wrap_i64];omega
theorem wu64 {n:Int} (h1:0 <= n) (h2:n <= 18446744073709551615):IntKind.u64.wrap n = n:=by simp [IntKind.wrap,IntKind.bits,IntKind.signed];omega
theorem wu8 {n:Int} (h1:0 <= n) (h2:n <= 255):IntKind.u8.wrap n = n:=by rw [IntKind.wrap_u8];omega
theorem wu32 {n:Int} (h1:0 <= n) (h2:n <= 4294967295):IntKind.u32.wrap n = n:=by rw [IntKind.wrap_u32];omega
theorem iltT {a b:Int} (h:a < b):(a < b) = True:=eq_true h
theorem iltF {a b:Int} (h:b <= a):(a < b) = False:=eq_false (by omega)
theorem ileT {a b:Int} (h:a <= b):(a <= b) = True:=eq_true h
theorem ileF {a b:Int} (h:b < a):(a <= b) = False:=eq_false (by omega)
theorem ieqT {a b:Int} (h:a = b):(a = b) = True:=eq_true h
theorem ieqF {a b:Int} (h:a ≠ b):(a = b) = False:=eq_false h
theorem nltT {a b:Nat} (h:a < b):(a < b) = True:=eq_true h
theorem nltF {a b:Nat} (h:b <= a):(a < b) = False:=eq_false (by omega)
theorem nleT {a b:Nat} (h:a <= b):(a <= b) = True:=eq_true h
theorem nleF {a b:Nat} (h:b < a):(a <= b) = False:=eq_false (by omega)
theorem neqT {a b:Nat} (h:a = b):(a = b) = True:=eq_true h
theorem neqF {a b:Nat} (h:a ≠ b):(a = b) = False:=eq_false h
theorem ibeqT {a b:Int} (h:a = b):(a == b) = SA:=by simp [h]
theorem ibeqF {a b:Int} (h:a ≠ b):(a == b) = TA:=by simp [h]
theorem ibneT {a b:Int} (h:a ≠ b):(a != b) = SA:=by simp [h]
theorem ibneF {a b:Int} (h:a = b):(a != b) = TA:=by simp [h]
end Go.Am
namespace Go.Am
open Go.RowKit Go.Off
variable {GL:Glb}
variable {P:Program} {opn:List FuncId} {h h':List Blk} {st st':St} {n n0 m:Nat} {α:Type} {e:Nat} {f:α -> List CV}
def IB (m:Nat):List Bool -> List AV -> List AV
 | true :: ls,x :: t=>lB m x :: IB m ls t
 | false :: ls,_ :: t=>.junk :: IB m ls t
 | [],_ :: t=>.junk :: IB m [] t
 | _,[]=>[]
theorem OK (m:Nat):∀ (ls:List Bool) (t:List AV) (i:Nat) (y:AV),(IB m ls t)[i]? = PA y -> ∃ x,t[i]? = PA x /\ (y = .junk \/ y = lB m x)
 | true :: ls,x :: t,0,y,h=>⟨x,rfl,.inr (by simpa [IB] using h.symm)⟩
 | false :: ls,x :: t,0,y,h=>⟨x,rfl,.inl (by simpa [IB] using h.symm)⟩
 | [],x :: t,0,y,h=>⟨x,rfl,.inl (by simpa [IB] using h.symm)⟩
 | true :: ls,x :: t,i + 1,y,h=>OK m ls t i y (by simpa [IB] using h)
 | false :: ls,x :: t,i + 1,y,h=>OK m ls t i y (by simpa [IB] using h)
 | [],x :: t,i + 1,y,h=>OK m [] t i y (by simpa [IB] using h)
 | true :: ls,[],i,y,h=>by simp [IB] at h
 | false :: ls,[],i,y,h=>by simp [IB] at h
 | [],[],i,y,h=>by simp [IB] at h
theorem fH (m:Nat):∀ (ls:List Bool) (t:List AV),(IB m ls t).length = t.length
 | true :: ls,x :: t=>by simp [IB,fH m ls t]
 | false :: ls,x :: t=>by simp [IB,fH m ls t]
 | [],x :: t=>by simp [IB,fH m [] t]
 | true :: ls,[]=>rfl
 | false :: ls,[]=>rfl
 | [],[]=>rfl
theorem TB.junk {t t':List AV} {h:List Blk} (hl:t'.length = t.length) (hj:∀ (i:Nat) (y:AV),t'[i]? = PA y -> ∃ x,t[i]? = PA x /\ (y = .junk \/ y = x)):TB n0 ⟨t,h⟩ ⟨t',h⟩:=fun X hd a w hX r =>
 ⟨hd,r.below,⟨by rw [<- r.slots.1];exact hl,fun i c v hc hv=>by
  obtain ⟨x,hx,rfl | rfl⟩:=hj i c hc
  ·exact .junk _
  ·exact r.slots.2 i _ v hx hv⟩,r.heap,r.tr,r.keeps,r.big,r.marks⟩
theorem TB.live (hn:n0 <= m) (ls:List Bool) (t:List AV) (h:List Blk):TB n0 ⟨t,h⟩ ⟨IB m ls t,(h.take m).map (uB m)⟩:=by
 refine (TB.norm hn [] ⟨t,h⟩).trans (TB.junk ?_ (fun i y hy=>?_))
 ·rw [fH];simp [iR]
 ·obtain ⟨x,hx,hy'⟩:=OK m ls t i y hy
  exact ⟨lB m x,by simp [iR,hx],hy'⟩
theorem clean_encB (l:List α):(wB f l).map (fun r=>r.map (XA m)) = wB f l:=by
 simp [wB,Function.comp_def,XA,clean1]
theorem TB.head (hn:n0 <= m) (ls:List Bool) {t t':List AV} {h h':List Blk} (ht:IB m ls t = t') (hh:(h.take m).map (uB m) = h'):TB n0 ⟨t,h⟩ ⟨t',h'⟩:=by
 subst ht;subst hh;exact TB.live hn ls t h
end Go.Am
namespace Go.Am
open Go.RowKit Go.Off
variable {GL:Glb}
variable {P:Program} {opn:List FuncId} {h h':List Blk} {st st':St} {n n0 m:Nat} {Q:Exit -> St -> Prop} {K:St -> Prop}
def putSt (t:List AV) (dst:Option Tmp) (p:AV × List Blk):Option St:=PA ⟨VC t dst p.1,p.2⟩
def opO (o:CO) (st:St):Option (Option St) :=
 match o.op with
 | .callf _ _=>PA QA
 | op=>(cev st op).map (putSt st.t o.dst)
def CT:Option Bool -> Option (Option St) -> Option (Option St) -> Option (Option St)
 | some SA,x,_=>x
 | some TA,_,y=>y
 | none,_,_=>QA
def NJ (o:CO) (st:St):Option (Option St) :=
 match o.guard with
 | none=>opO o st
 | some (x,want)=>CT (tD st x want) (opO o st) (PA (PA ⟨VC st.t o.dst (.tup []),st.h⟩))
def QG:Option (Option St) -> St -> List CO -> (St -> Option (St × List CO)) -> Option (St × List CO)
 | none,_,_,_=>QA
 | some QA,st,l,_=>PA (st,l)
 | some (PA st'),_,_,k=>k st'
def oS:List CO -> St -> Option (St × List CO)
 | [],st=>PA (st,[])
 | o :: os,st=>QG (NJ o st) st (o :: os) (oS os)
theorem BJ:∀ {cos:List CO} {st st':St} {rest:List CO},oS cos st = PA (st',rest) -> dC P opn rest st' K -> dC P opn cos st K
 | [],st,st',rest,h,hk=>by
  simp only [oS,BA,MA] at h
  obtain ⟨rfl,rfl⟩:=h
  exact hk
 | o :: os,st,st',rest,h,hk=>by
  obtain ⟨dst,guard,op⟩:=o
  simp only [oS] at h
  have key:∀ p:AV × List Blk,cev st op = PA p -> (∀ f a,op ≠ .callf f a) -> dC P opn os ⟨VC st.t dst p.1,p.2⟩ K -> CJ P opn st op (fun av h'=>dC P opn os ⟨VC st.t dst av,h'⟩ K):=fun p hp hne hv=>by
   cases op with
   | callf f a=>exact absurd rfl (hne f a)
   | _=>simp only [CJ,hp];exact hv
  have fin:∀ s1,opO ⟨dst,guard,op⟩ st = PA (PA s1) -> dC P opn os s1 K -> CJ P opn st op (fun av h'=>dC P opn os ⟨VC st.t dst av,h'⟩ K):=fun s1 h1 hv=>by
   have hne:∀ f a,op ≠ .callf f a:=fun f a e=>by subst e;simp [opO] at h1
   have h2:(cev st op).map (putSt st.t dst) = PA (PA s1):=by
    cases op with
    | callf f a=>exact absurd rfl (hne f a)
    | _=>exact h1
   rw [AA] at h2
   obtain ⟨p,hp,he⟩:=h2
   simp only [putSt,BA] at he
   subst he
   exact key p hp hne hv
  cases guard with
  | none =>
   rw [BC]
   simp only
   cases ho:opO ⟨dst,QA,op⟩ st with
   | none=>simp only [NJ,ho,QG] at h;cases h
   | some x =>
    cases x with
    | none =>
     simp only [NJ,ho,QG,BA,MA] at h
     obtain ⟨rfl,rfl⟩:=h
     rw [BC] at hk
     exact hk
    | some s1 =>
     simp only [NJ,ho,QG] at h
     exact fin s1 ho (BJ h hk)
  | some g =>
   obtain ⟨x,want⟩:=g
   rw [BC]
   simp only
   cases hg:tD st x want with
   | none=>simp only [NJ,hg,CT,QG] at h;cases h
   | some b =>
    cases b with
    | false =>
     simp only [NJ,hg,CT,QG] at h
     simp only [IA,if_false]
     exact BJ h hk
    | true =>
     simp only [if_true]
     cases ho:opO ⟨dst,PA (x,want),op⟩ st with
     | none=>simp only [NJ,hg,CT,ho,QG] at h;cases h
     | some y =>
      cases y with
      | none =>
       simp only [NJ,hg,CT,ho,QG,BA,MA] at h
       obtain ⟨rfl,rfl⟩:=h
       rw [BC] at hk
       simp only [hg,if_true] at hk
       exact hk
      | some s1 =>
       simp only [NJ,hg,CT,ho,QG] at h
       exact fin s1 ho (BJ h hk)
def qD [Glb] (P:Program) (opn:List FuncId) (o:CO) (os:List CO) (st:St) (K:St -> Prop):Prop:=dC P opn (o :: os) st K
def gO (os:List CO) (st:St):Option (St × List CO):=oS os st
theorem runK_nil:gO [] st = PA (st,[]):=rfl
theorem runK_cons {o:CO} {os:List CO}:gO (o :: os) st = QG (NJ o st) st (o :: os) (gO os):=rfl
theorem contTo_some {st':St} {l:List CO} {k:St -> Option (St × List CO)}:QG (PA (PA st')) st l k = k st':=rfl
theorem contTo_call {l:List CO} {k:St -> Option (St × List CO)}:QG (PA QA) st l k = PA (st,l):=rfl
theorem step_plain {d:Option Tmp} {op:COp}:NJ ⟨d,QA,op⟩ st = opO ⟨d,QA,op⟩ st:=rfl
theorem step_guard {d:Option Tmp} {op:COp} {x:Tmp} {b:Bool}:NJ ⟨d,PA (x,b),op⟩ st = CT (tD st x b) (opO ⟨d,PA (x,b),op⟩ st) (PA (PA ⟨VC st.t d (.tup []),st.h⟩)):=rfl
theorem selG_t {a b:Option (Option St)}:CT (PA SA) a b = a:=rfl
theorem selG_f {a b:Option (Option St)}:CT (PA TA) a b = b:=rfl
def lL [Glb] (P:Program) (opn:List FuncId):Option (St × List CO) -> (St -> Prop) -> Prop
 | none,_=>False
 | some (st,[]),K=>K st
 | some (st,o :: os),K=>qD P opn o os st K
theorem goRun_done {st:St}:lL P opn (PA (st,[])) K = K st:=rfl
theorem goRun_call {st:St} {o:CO} {os:List CO}:lL P opn (PA (st,o :: os)) K = qD P opn o os st K:=rfl
def condB:AV -> Prop -> Prop -> Prop
 | .one (.c (.val (.bool b))),X,Y=>if b = SA then X else Y
 | _,_,_=>False
theorem condB_eq {b:Bool} {X Y:Prop}:condB (.one (.c (.val (.bool b)))) X Y = if b = SA then X else Y:=rfl
theorem wN {cos:List CO} (h:∀ K':St -> Prop,K' = K -> lL P opn (gO cos st) K'):dC P opn cos st K:=by
 have h:=h K rfl
 unfold gO at h
 cases hr:oS cos st with
 | none=>rw [hr] at h;exact h.elim
 | some p =>
  obtain ⟨st',rest⟩:=p
  rw [hr] at h
  refine BJ hr ?_
  cases rest with
  | nil=>exact h
  | cons o os=>exact h
theorem awp_runK (hm:P.follows .mixedOrders = SA) {cos:List CO} (h:∀ K':St -> Prop,K' = Q .normal -> lL P opn (gO cos st) K'):uD P opn n0 (.reg cos) Q st :=
 awp_reg hm (wN h)
theorem aD {t:List AV} {h:List Blk} {dst:Option Tmp} {f:FuncId} {args:List Operand} {as cas:List AV} {av:AV} {os:List CO} (hp:YA P f cas (.ret av)) (ha:sC ⟨t,h⟩ (.func f) args = PA (f,as)) (hcl:as.mapM (VB h 3) = PA cas)
  (hf:LE av = SA) (hk:dC P opn os ⟨VC t dst av,h⟩ K):qD P opn ⟨dst,QA,.callf (.func f) args⟩ os ⟨t,h⟩ K:=by
 unfold qD
 rw [BC]
 exact opV_flat ha hcl hp hf hk
theorem ZE {t:List AV} {h:List Blk} {dst:Option Tmp} {x:Tmp} {want:Bool} {f:FuncId} {args:List Operand} {as cas:List AV} {av:AV} {os:List CO} (hg:tD ⟨t,h⟩ x want = PA SA) (hp:YA P f cas (.ret av)) (ha:sC ⟨t,h⟩ (.func f) args = PA (f,as)) (hcl:as.mapM (VB h 3) = PA cas)
  (hf:LE av = SA) (hk:dC P opn os ⟨VC t dst av,h⟩ K):qD P opn ⟨dst,PA (x,want),.callf (.func f) args⟩ os ⟨t,h⟩ K:=by
 unfold qD
 rw [BC]
 simp only [hg,if_true]
 exact opV_flat ha hcl hp hf hk
theorem cJ {t:List AV} {h h':List Blk} {dst:Option Tmp} {f:FuncId} {args:List Operand} {as cas:List AV} {av:AV} {os:List CO} {ids:List Nat} (hp:YA P f cas (.ret av)) (ha:sC ⟨t,h⟩ (.func f) args = PA (f,as)) (hcl:as.mapM (VB h 3) = PA cas)
  (hf:LE av = TA) (hu:(as.map (kC h 3)).flatten = ids) (hh:freeze ids h = h') (hk:dC P opn os ⟨VC t dst av,h'⟩ K):qD P opn ⟨dst,QA,.callf (.func f) args⟩ os ⟨t,h⟩ K:=by
 unfold qD
 rw [BC]
 subst hh
 exact qQ ha hcl hu hp hf hk
theorem ML {t:List AV} {h h':List Blk} {dst:Option Tmp} {x:Tmp} {want:Bool} {f:FuncId} {args:List Operand} {as cas:List AV} {av:AV} {os:List CO} {ids:List Nat} (hg:tD ⟨t,h⟩ x want = PA SA) (hp:YA P f cas (.ret av)) (ha:sC ⟨t,h⟩ (.func f) args = PA (f,as)) (hcl:as.mapM (VB h 3) = PA cas)
  (hf:LE av = TA) (hu:(as.map (kC h 3)).flatten = ids) (hh:freeze ids h = h') (hk:dC P opn os ⟨VC t dst av,h'⟩ K):qD P opn ⟨dst,PA (x,want),.callf (.func f) args⟩ os ⟨t,h⟩ K:=by
 unfold qD
 rw [BC]
 simp only [hg,if_true]
 subst hh
 exact qQ ha hcl hu hp hf hk
theorem call_any {t:List AV} {h:List Blk} {dst:Option Tmp} {f:FuncId} {args:List Operand} {as cas:List AV} {av:AV} {os:List CO} (hp:YA P f cas (.ret av)) (ha:sC ⟨t,h⟩ (.func f) args = PA (f,as)) (hcl:as.mapM (VB h 3) = PA cas)
  (hu:(as.map (kC h 3)).flatten = []) (hk:dC P opn os ⟨VC t dst av,h⟩ K):qD P opn ⟨dst,QA,.callf (.func f) args⟩ os ⟨t,h⟩ K:=by
 cases hf:LE av with
 | true=>exact aD hp ha hcl hf hk
 | false=>exact cJ hp ha hcl hf hu (AJ h) hk
theorem TH {t:List AV} {h:List Blk} {dst:Option Tmp} {x:Tmp} {want:Bool} {f:FuncId} {args:List Operand} {as cas:List AV} {av:AV} {os:List CO} (hp:YA P f cas (.ret av)) (ha:sC ⟨t,h⟩ (.func f) args = PA (f,as)) (hg:tD ⟨t,h⟩ x want = PA SA) (hcl:as.mapM (VB h 3) = PA cas)
  (hu:(as.map (kC h 3)).flatten = []) (hk:dC P opn os ⟨VC t dst av,h⟩ K):qD P opn ⟨dst,PA (x,want),.callf (.func f) args⟩ os ⟨t,h⟩ K:=by
 cases hf:LE av with
 | true=>exact ZE hg hp ha hcl hf hk
 | false=>exact ML hg hp ha hcl hf hu (AJ h) hk
theorem KG {α:Type} {t:List AV} {h h':List Blk} {dst:Option Tmp} {f:FuncId} {args:List Operand} {as cas:List AV} {ty:TypeId} {e:Nat} {g:α -> List CV} {l:List α} {nn:Bool} {os:List CO} {ids:List Nat} (hp:YA P f cas (.fresh ty e (l.map g) nn)) (ha:sC ⟨t,h⟩ (.func f) args = PA (f,as)) (hcl:as.mapM (VB h 3) = PA cas)
  (hu:(as.map (kC h 3)).flatten = ids) (hh:freeze ids h = h') (hk:dC P opn os ⟨VC t dst (.one (.own h.length 0)),h' ++ [⟨0,ty,e,wB g l,SA,nn⟩]⟩ K):qD P opn ⟨dst,QA,.callf (.func f) args⟩ os ⟨t,h⟩ K:=by
 unfold qD
 rw [BC]
 subst hh
 refine opV_new ha hcl hu hp ?_
 rw [<- jH]
 exact hk
theorem blk_e {id:Nat} (h:Q .normal st):aE id Q (.exit id) st:=by simp only [aE,if_true];exact h
theorem VA {id id':Nat} (hne:(id' == id) = TA) (h:Q (.exit id') st):aE id Q (.exit id') st:=by
 have:¬ id' = id:=fun e=>by simp [e] at hne
 simp only [aE,if_neg this];exact h
end Go.Am
namespace Go.Am
open Go.RowKit Go.Off
variable {GL:Glb}
variable {P:Program} {opn:List FuncId} {h h':List Blk} {st st':St} {n n0 m:Nat} {Q:Exit -> St -> Prop} {K:St -> Prop}
theorem RC:([]:List (List Nat)).flatten = []:=rfl
theorem AC {x:List Nat} {xs:List (List Nat)} {i j:List Nat} (h1:x = i) (h2:xs.flatten = j):(x :: xs).flatten = i ++ j:=by
 rw [List.flatten_cons,h1,h2]
def gE (ids:List Nat):Nat -> List Blk -> List Blk
 | _,[]=>[]
 | i,k :: h=>{ k with live:=if ids.contains i then TA else k.live } :: gE ids (i + 1) h
theorem JQ {ids:List Nat} {i:Nat}:gE ids i [] = []:=rfl
theorem DO {ids:List Nat} {i v ty e:Nat} {l:List (List Cell)} {live nn:Bool}:gE ids i (⟨v,ty,e,l,live,nn⟩ :: h) = ⟨v,ty,e,l,if ids.contains i then TA else live,nn⟩ :: gE ids (i + 1) h:=rfl
theorem oC (ids:List Nat) (h:List Blk):freeze ids h = gE ids 0 h:=by
 have key:∀ (h:List Blk) (i:Nat),gE ids i h = h.mapIdx fun j k=>if ids.contains (i + j) then { k with live:=TA } else k:=by
  intro h
  induction h with
  | nil=>intro i;rfl
  | cons k h ih =>
   intro i
   rw [gE,ih,List.mapIdx_cons]
   congr 1
   ·simp only [Nat.add_zero]
    split <;> rfl
   ·congr 1
    funext j k
    rw [show i + 1 + j = i + (j + 1) by omega]
 rw [key h 0]
 simp [freeze]
theorem YA.fresh_ret {f:FuncId} {args:List AV} {ty:TypeId} {e:Nat} {l:List (List CV)} (h:YA P f args (.fresh ty e l SA)):YA P f args (.ret (.one (.c (.sl e l)))):=by
 refine ⟨h.1,fun w M vals hM hp=>(h.2 w M vals hM hp).mono ?_⟩
 rintro en w' ⟨v,rfl,hb,hr,hnn,xs,ho,hc⟩
 refine ⟨v,rfl,hb,.one _ _ (.c _ _ ?_)⟩
 rcases ho.2 with ⟨h0,_⟩ | ⟨g,cap,cur,hv,hge,hg,hle,hcm,hsz,htk⟩
 ·exact absurd (hnn.2 h0) (by simp)
 ·subst hv
  have hnM:¬ M g:=fun hm=>by have:=hM.1 g hm;omega
  have hlt:g < w'.heap.size:=(Array.getElem?_eq_some_iff.1 hg).1
  refine CR.of_rows hnM hlt hle hr (hc.mono (fun c v hcv=>hcv.tr (fun _ _ _=>rfl) (fun g' hg' _ hm=>hg' (.inl hm)) (EA _))) (fun j u hu=>?_)
  rw [<- htk] at hu
  rw [List.getElem?_take] at hu
  split at hu
  ·simp only [World.cell?,hg,Nat.zero_add]
   simpa using hu
  ·cases hu
end Go.Am
namespace Go.Am
open Go.RowKit Go.Off
variable {GL:Glb}
variable {P:Program} {opn:List FuncId} {h h':List Blk} {st st' s:St} {n n0 m:Nat} {Q:Exit -> St -> Prop} {K:St -> Prop}
theorem constAV_nilFunc:yB Value.nilFunc = .one (.c (.val Value.nilFunc)):=rfl
theorem ite_max {a b:Int}:(if a < b then b else a) = max a b:=by rw [Int.max_def];split <;> split <;> omega
theorem ite_min {a b:Int}:(if b < a then b else a) = min a b:=by rw [Int.min_def];split <;> split <;> omega
theorem lenAV_own_eq {b ver:Nat}:OF h TA (.one (.own b ver)) = match h[b]? with | some k=>if ver = k.ver /\ 0 < k.e then PA k.els.length else QA | none=>QA:=rfl
theorem lenAV_nil:OF h TA (.one (.c (.val (.slice QA 0 0)))) = PA 0:=rfl
theorem iaddr_own_eq {e b ver:Nat} {j:Int}:nI h e QA (.one (.own b ver)) j = match h[b]? with | some k=>if ver = k.ver /\ k.e = e /\ 0 <= j /\ j < k.els.length then PA (.one (.ptr b ver j.toNat 0)) else QA | none=>QA:=rfl
theorem iaddr_arr_ptr {e n b ver i off:Nat} {j:Int}:nI h e (PA n) (.one (.ptr b ver i off)) j = match h[b]? with | some k=>if ver = k.ver /\ 0 < k.e /\ 0 <= j /\ j < n then PA (.one (.ptr b ver i (off + j.toNat * e))) else QA | none=>QA:=rfl
theorem iaddr_arr_iptr {e n:Nat} {l:List CV} {j:Int}:nI h e (PA n) (.one (.iptr l)) j = if 0 <= j /\ j < n then PA (.one (.iptr (l.drop (j.toNat * e)))) else QA:=rfl
theorem elems_own_eq {e b ver:Nat}:QD h e (.one (.own b ver)) = match h[b]? with | some k=>if ver = k.ver /\ k.e = e then PA k.els else QA | none=>QA:=rfl
theorem elems_nil {e:Nat}:QD h e (.one (.c (.val (.slice QA 0 0)))) = PA []:=rfl
theorem xC {α:Type} {f:α -> List CV} {b ver ty e:Nat} {live nn:Bool} {l:List α} (hk:h[b]? = PA ⟨ver,ty,e,wB f l,live,nn⟩):kC h 3 (.one (.own b ver)) = [b]:=used_own (n:=2) hk
theorem CB {α:Type} {f:α -> List CV} {b ver ty e:Nat} {live:Bool} {l:List α} (hk:h[b]? = PA ⟨ver,ty,e,wB f l,live,SA⟩) (h0:0 < e):VB h 3 (.one (.own b ver)) = PA (.one (.c (jB e f (PA l)))):=bT (n:=2) hk h0
theorem awp_fold {α β:Type} {g:Operand} {ps:List Tmp} {ms:List (Tmp × Tmp)} {body:CC} {gf:FuncId} {caps:List Cell} {encs:α -> List AV} {L:List α} {Sp:List α -> Prop} {N:Nat}
  (hit:oT P gf caps encs ps.length (fun xs=>xs = L) Sp N) (hg:st.ev g = .one (.fn gf caps)) (hcaps:∀ c ∈ caps,wE c = SA)
  (H:β -> List Blk) (f:β -> α -> β) (I:Nat -> β -> Prop) (b0:β) (hH0:st.h = H b0) (hI0:I 0 b0)
  (hround:∀ i b x,i < N -> I i b -> uD P opn st.h.length body (EH st.h.length (fun h'=>h' = H (f b x) /\ I (i + 1) (f b x)) (fun _ _=>False)) ⟨mvT ms (VG ps (encs x) st.t),H b⟩)
  (hdone:I L.length (L.foldl f b0) -> Q .normal ⟨st.t,H (L.foldl f b0)⟩):uD P opn n0 (.rf g ps ms body) Q st:=by
 refine awp_rf hg hcaps hit (fun pre h=>h = H (pre.foldl f b0) /\ I pre.length (pre.foldl f b0)) ⟨hH0,hI0⟩ (fun _ _ _=>False) ?_ ?_ (fun _ _ _ _ h=>h.elim)
 ·rintro pre x h hlen ⟨rfl,hi⟩
  have:=hround pre.length _ x hlen hi
  simpa only [List.foldl_append,List.foldl_cons,List.foldl_nil,sA,oA,pA,Nat.zero_add] using this
 ·rintro xs h rfl ⟨rfl,hi⟩
  exact hdone hi
end Go.Am
namespace Go.Am
open Go.RowKit Go.Off
variable {GL:Glb}
def shlI (k:IntKind) (a:Int) (n:Nat):Int:=k.wrap (a * 2 ^ (min n k.bits))
def cN (k:IntKind) (a:Int) (n:Nat):Int:=a.fdiv (2 ^ (min n k.bits))
def andI (k:IntKind) (x y:Int):Int:=k.wrap (BitVec.ofInt k.bits x &&& BitVec.ofInt k.bits y).toNat
def orI (k:IntKind) (x y:Int):Int:=k.wrap (BitVec.ofInt k.bits x ||| BitVec.ofInt k.bits y).toNat
def xorI (k:IntKind) (x y:Int):Int:=k.wrap (BitVec.ofInt k.bits x ^^^ BitVec.ofInt k.bits y).toNat
variable {k k':IntKind} {a b:Int} {s t:List UInt8}
theorem bin_add:kD .add (.one (.c (.val (.int k a)))) (.one (.c (.val (.int k b)))) = PA (.one (.c (.val (.int k (k.wrap (a + b)))))):=by simp [kD,nF]
theorem bin_sub:kD .sub (.one (.c (.val (.int k a)))) (.one (.c (.val (.int k b)))) = PA (.one (.c (.val (.int k (k.wrap (a - b)))))):=by simp [kD,nF]
theorem bin_mul:kD .mul (.one (.c (.val (.int k a)))) (.one (.c (.val (.int k b)))) = PA (.one (.c (.val (.int k (k.wrap (a * b)))))):=by simp [kD,nF]
theorem bin_quo (h:b ≠ 0):kD .quo (.one (.c (.val (.int k a)))) (.one (.c (.val (.int k b)))) = PA (.one (.c (.val (.int k (k.wrap (a.tdiv b)))))):=by simp [kD,nF,h]
theorem bin_rem (h:b ≠ 0):kD .rem (.one (.c (.val (.int k a)))) (.one (.c (.val (.int k b)))) = PA (.one (.c (.val (.int k (a.tmod b))))):=by simp [kD,nF,h]
theorem bin_and:kD .and (.one (.c (.val (.int k a)))) (.one (.c (.val (.int k b)))) = PA (.one (.c (.val (.int k (andI k a b))))):=by simp [kD,nF,andI]
theorem bin_or:kD .or (.one (.c (.val (.int k a)))) (.one (.c (.val (.int k b)))) = PA (.one (.c (.val (.int k (orI k a b))))):=by simp [kD,nF,orI]
theorem bin_xor:kD .xor (.one (.c (.val (.int k a)))) (.one (.c (.val (.int k b)))) = PA (.one (.c (.val (.int k (xorI k a b))))):=by simp [kD,nF,xorI]
theorem bin_eql:kD .eql (.one (.c (.val (.int k a)))) (.one (.c (.val (.int k b)))) = PA (.one (.c (.val (.bool (a == b))))):=by simp [kD,nF]
theorem bin_neq:kD .neq (.one (.c (.val (.int k a)))) (.one (.c (.val (.int k b)))) = PA (.one (.c (.val (.bool (a != b))))):=by simp [kD,nF]
theorem bin_lss:kD .lss (.one (.c (.val (.int k a)))) (.one (.c (.val (.int k b)))) = PA (.one (.c (.val (.bool (decide (a < b)))))):=by simp [kD,nF]
theorem bin_leq:kD .leq (.one (.c (.val (.int k a)))) (.one (.c (.val (.int k b)))) = PA (.one (.c (.val (.bool (decide (a <= b)))))):=by simp [kD,nF]
theorem bin_gtr:kD .gtr (.one (.c (.val (.int k a)))) (.one (.c (.val (.int k b)))) = PA (.one (.c (.val (.bool (decide (b < a)))))):=by simp [kD,nF]
theorem bin_geq:kD .geq (.one (.c (.val (.int k a)))) (.one (.c (.val (.int k b)))) = PA (.one (.c (.val (.bool (decide (b <= a)))))):=by simp [kD,nF]
theorem bin_shl (h:0 <= b):kD .shl (.one (.c (.val (.int k a)))) (.one (.c (.val (.int k' b)))) = PA (.one (.c (.val (.int k (shlI k a b.toNat))))):=by
 have:¬ b < 0:=by omega
 simp [kD,this,shlI]
theorem bin_shr (h:0 <= b):kD .shr (.one (.c (.val (.int k a)))) (.one (.c (.val (.int k' b)))) = PA (.one (.c (.val (.int k (cN k a b.toNat))))):=by
 have:¬ b < 0:=by omega
 simp [kD,this,cN]
theorem bin_sadd (h:s.length + t.length <= 9223372036854775807):kD .add (.one (.c (.str s))) (.one (.c (.str t))) = PA (.one (.c (.str (s ++ t)))):=by simp only [kD,h,if_true]
theorem bin_seql:kD .eql (.one (.c (.str s))) (.one (.c (.str t))) = PA (.one (.c (.val (.bool (s == t))))):=rfl
theorem bin_sneq:kD .neq (.one (.c (.str s))) (.one (.c (.str t))) = PA (.one (.c (.val (.bool (!(s == t)))))):=rfl
theorem bin_slss:kD .lss (.one (.c (.str s))) (.one (.c (.str t))) = PA (.one (.c (.val (.bool (Op.bytesLess s t))))):=rfl
theorem constAV_int {n:Int}:yB (.int k n) = .one (.c (.val (.int k n))):=rfl
theorem constAV_bool {x:Bool}:yB (.bool x) = .one (.c (.val (.bool x))):=rfl
theorem constAV_nils:yB (.slice QA 0 0) = .one (.c (.val (.slice QA 0 0))):=rfl
theorem constAV_str {l:List UInt8}:yB (.string ⟨⟨l⟩⟩) = .one (.c (.str l)):=rfl
theorem constAV_agg {l:List Value}:yB (.agg ⟨l⟩) = if l.all (·.oneCell') then .agg (l.map fun v=>.c (.val v)) else .junk:=rfl
theorem VL (n:Nat):IntKind.u64.wrap (n:Int) = ((n % 18446744073709551616:Nat):Int):=by
 simp only [IntKind.wrap,IntKind.bits,IntKind.signed]
 simp
theorem eJ (n:Nat):IntKind.u32.wrap (n:Int) = ((n % 4294967296:Nat):Int):=by
 simp only [IntKind.wrap,IntKind.bits,IntKind.signed]
 simp
theorem shrI_u64 {n m:Nat} {z:Int} (hz:0 <= z) (hn:n <= 64) (hm:2 ^ n = m):cN .u64 z n = z / (m:Int):=by
 unfold cN
 rw [Int.fdiv_eq_ediv_of_nonneg _ (Int.pow_nonneg (by decide)),<- hm]
 simp [IntKind.bits,Nat.min_eq_left hn]
theorem orI_u64 {x y:Nat} (hx:x < 18446744073709551616) (hy:y < 18446744073709551616):orI .u64 (x:Int) (y:Int) = ((x ||| y:Nat):Int):=by
 have hxy:x ||| y < 2 ^ 64:=Nat.or_lt_two_pow (by simpa using hx) (by simpa using hy)
 unfold orI
 rw [BitVec.toNat_or]
 simp only [BitVec.ofInt_natCast,BitVec.toNat_ofNat,IntKind.bits]
 rw [Nat.mod_eq_of_lt (by simpa using hx),Nat.mod_eq_of_lt (by simpa using hy),VL,Nat.mod_eq_of_lt (by simpa using hxy)]
theorem orI_u32 {x y:Nat} (hx:x < 4294967296) (hy:y < 4294967296):orI .u32 (x:Int) (y:Int) = ((x ||| y:Nat):Int):=by
 have hxy:x ||| y < 2 ^ 32:=Nat.or_lt_two_pow (by simpa using hx) (by simpa using hy)
 unfold orI
 rw [BitVec.toNat_or]
 simp only [BitVec.ofInt_natCast,BitVec.toNat_ofNat,IntKind.bits]
 rw [Nat.mod_eq_of_lt (by simpa using hx),Nat.mod_eq_of_lt (by simpa using hy),eJ,Nat.mod_eq_of_lt (by simpa using hxy)]
theorem shlI_u64 {n m:Nat} (x:Nat) (hn:n <= 64) (hm:2 ^ n = m):shlI .u64 (x:Int) n = ((x * m % 18446744073709551616:Nat):Int):=by
 unfold shlI
 rw [<- VL,<- hm]
 congr 1
 simp [IntKind.bits,Nat.min_eq_left hn]
theorem shlI_u32 {n m:Nat} (x:Nat) (hn:n <= 32) (hm:2 ^ n = m):shlI .u32 (x:Int) n = ((x * m % 4294967296:Nat):Int):=by
 unfold shlI
 rw [<- eJ,<- hm]
 congr 1
 simp [IntKind.bits,Nat.min_eq_left hn]
theorem iJ {x y:Int} (h:0 <= x):x.tdiv y = x / y:=Int.tdiv_eq_ediv_of_nonneg h
theorem gJ {x y:Int} (h:0 <= x):x.tmod y = x % y:=Int.tmod_eq_emod_of_nonneg h
theorem PD {P:Program} {opn:List FuncId} {K:St -> Prop} {t:List AV} {h h':List Blk} {dst:Option Tmp} {f:FuncId} {args:List Operand} {as:List AV} {r:AV} {os:List CO} (hp:DE P f as h r h') (hw:SO opn (.func f) = SA) (ha:sC ⟨t,h⟩ (.func f) args = PA (f,as))
  (hk:dC P opn os ⟨VC t dst r,h'⟩ K):qD P opn ⟨dst,QA,.callf (.func f) args⟩ os ⟨t,h⟩ K:=by
 unfold qD
 rw [BC]
 exact ⟨r,h',⟨f,as,ha,.inr (.inl ⟨hw,hp⟩)⟩,hk⟩
theorem bD {P:Program} {opn:List FuncId} {K:St -> Prop} {t:List AV} {h:List Blk} {dst:Option Tmp} {f:FuncId} {args:List Operand} {as:List AV} {r:AV} {os:List CO} (hp:DE P f as h r h) (hw:zM opn (.func f) = SA) (ha:sC ⟨t,h⟩ (.func f) args = PA (f,as))
  (hk:dC P opn os ⟨VC t dst r,h⟩ K):qD P opn ⟨dst,QA,.callf (.func f) args⟩ os ⟨t,h⟩ K:=by
 unfold qD
 rw [BC]
 exact ⟨r,h,⟨f,as,ha,.inr (.inr ⟨hw,rfl,hp⟩)⟩,hk⟩
theorem cutAV_own {e b v:Nat} {lo hi:Option AV}:UI e (.one (.own b v)) lo hi = QA:=rfl
end Go.Am
set_option linter.defProp false
namespace Go.Am
open Go.RowKit Go.Off
def condG:AV -> (Bool -> Prop) -> Prop
 | .one (.c (.val (.bool b))),K=>K b
 | _,_=>False
theorem condG_eq {b:Bool} {K:Bool -> Prop}:condG (.one (.c (.val (.bool b)))) K = K b:=rfl
def std0:=And.intro (@Go.Am.runK_nil) (And.intro (@Go.Am.runK_cons) (And.intro (@Go.Am.contTo_some) (And.intro (@Go.Am.contTo_call) (And.intro (@Go.Am.step_plain) (And.intro (@Go.Am.step_guard) (And.intro (@Go.Am.selG_t) (And.intro (@Go.Am.selG_f) (And.intro (@Go.Am.goRun_done) (And.intro (@Go.Am.goRun_call) (And.intro (@beq_true) (And.intro (@beq_false) (And.intro (@Go.Am.constAV_nilFunc) (And.intro (@Go.Am.constAV_int) (And.intro (@Go.Am.constAV_bool) (And.intro (@Go.Am.constAV_nils) (And.intro (@Go.Am.constAV_str) (And.intro (@Go.Am.constAV_agg) (And.intro (@List.all_cons.{0}) (@List.all_nil.{0})))))))))))))))))))
def std1:=And.intro (@Bool.and_true) (And.intro (@Bool.true_and) (And.intro (@Go.Am.condB_eq) (And.intro (@Go.Am.bin_add) (And.intro (@Go.Am.bin_sub) (And.intro (@Go.Am.bin_mul) (And.intro (@Go.Am.bin_quo) (And.intro (@Go.Am.bin_rem) (And.intro (@Go.Am.bin_and) (And.intro (@Go.Am.bin_or) (And.intro (@Go.Am.bin_xor) (And.intro (@Go.Am.bin_eql) (And.intro (@Go.Am.bin_neq) (And.intro (@Go.Am.bin_lss) (And.intro (@Go.Am.bin_leq) (And.intro (@Go.Am.bin_gtr) (And.intro (@Go.Am.bin_geq) (And.intro (@Go.Am.bin_shl) (And.intro (@Go.Am.bin_shr) (@Go.Am.bin_sadd)))))))))))))))))))
def std2:=And.intro (@Go.Am.bin_seql) (And.intro (@Go.Am.bin_sneq) (And.intro (@Go.Am.bin_slss) (And.intro (@Go.Am.lenAV_enc) (And.intro (@Go.Am.isNilAV_enc) (And.intro (@Go.Am.iaddr_enc) (And.intro (@Go.Am.elems_enc) (And.intro (@Go.Am.cut_enc_all) (And.intro (@Go.Am.cut_enc_hi) (And.intro (@Go.Am.cut_enc_lo) (And.intro (@Go.Am.cutAV_own) (And.intro (@Go.Am.HG) (And.intro (@Go.Am.encB_get) (And.intro (@Go.Am.encB_isEmpty) (And.intro (@Go.Am.iaddr_own_eq) (And.intro (@Go.Am.lenAV_own_eq) (And.intro (@Go.Am.lenAV_nil) (And.intro (@Go.Am.iaddr_arr_ptr) (And.intro (@Go.Am.iaddr_arr_iptr) (@Go.Am.elems_own_eq)))))))))))))))))))
def std3:=And.intro (@Go.Am.elems_nil) (And.intro (@and_self) (And.intro (@Go.Am.wi64) (And.intro (@Go.Am.wu64) (And.intro (@Go.Am.wu8) (And.intro (@Go.Am.ite_max) (And.intro (@mA.{0}) (And.intro (@lA.{0}) (And.intro (@List.getD_cons_zero.{0}) (And.intro (@List.getD_cons_succ.{0}) (And.intro (@List.getElem?_cons_zero.{0}) (And.intro (@List.getElem?_cons_succ.{0}) (And.intro (@List.getElem?_nil.{0}) (And.intro (@Option.map_some.{0,0}) (And.intro (@Option.map_none.{0,0}) (And.intro (@Option.bind_some.{0,0}) (And.intro (@Option.bind_none.{0,0}) (And.intro (@if_true.{0}) (And.intro (@if_false.{0}) (@ite_true.{0})))))))))))))))))))
def std4:=And.intro (@ite_false.{0}) (And.intro (@decide_true) (And.intro (@decide_false) (And.intro (@oA.{0}) (And.intro (@pA.{0}) (And.intro (@List.append_nil.{0}) (And.intro (@qA.{0}) (And.intro (@rA.{0}) (And.intro (@Int.toNat_natCast) (And.intro (@List.take_zero.{0}) (And.intro (@List.drop_zero.{0}) (And.intro (@List.take_succ_cons.{0}) (And.intro (@List.drop_succ_cons.{0}) (And.intro (@List.map_cons.{0,0}) (And.intro (@List.map_nil.{0,0}) (And.intro (@true_and) (And.intro (@and_true) (And.intro (@Bool.true_eq_false) (And.intro (@IA) (@List.append_assoc.{0})))))))))))))))))))
def std5:=And.intro (@List.map_append.{0,0}) (And.intro (@Bool.not_true) (And.intro (@LA) (And.intro (@Bool.true_or) (And.intro (@Bool.false_or) (And.intro (@Bool.or_false) (And.intro (@KA) (And.intro (@beq_self_eq_true.{0}) (And.intro (@BEq.rfl.{0}) (And.intro (@decide_eq_true_eq) (And.intro (@gt_iff_lt.{0}) (And.intro (@ge_iff_le.{0}) (And.intro (@Go.Am.iltT) (And.intro (@Go.Am.iltF) (And.intro (@Go.Am.ileT) (And.intro (@Go.Am.ileF) (And.intro (@Go.Am.ieqT) (And.intro (@Go.Am.ieqF) (And.intro (@Go.Am.nltT) (@Go.Am.nltF)))))))))))))))))))
def std6:=And.intro (@Go.Am.nleT) (And.intro (@Go.Am.nleF) (And.intro (@Go.Am.neqT) (And.intro (@Go.Am.neqF) (And.intro (@Go.Am.ibeqT) (And.intro (@Go.Am.ibeqF) (And.intro (@Go.Am.ibneT) (And.intro (@Go.Am.ibneF) (And.intro (@List.mapM_nil.{0,0,0}) (And.intro (@List.mapM_cons.{0,0,0}) (And.intro (@List.foldlM_cons.{0,0,0}) (And.intro (@List.foldlM_nil.{0,0,0}) (And.intro (@Nat.lt_irrefl) (And.intro (@EA) (And.intro (@Option.pure_def.{0}) (And.intro (@Option.bind_eq_bind.{0}) (And.intro (@Go.Off.osl_some) (And.intro (@Go.Off.osl_none) (@Nat.zero_add))))))))))))))))))
theorem phIdx_ph {h:List Blk}:mD (⟨0,0,0,[],SA,TA⟩ :: h) = PA 0:=by
 unfold mD
 exact if_pos ⟨rfl,rfl,rfl,rfl,rfl⟩
theorem phIdx_no {v ty e:Nat} {els:List (List Cell)} {l nn:Bool} {h:List Blk} (h0:0 < e):mD (⟨v,ty,e,els,l,nn⟩ :: h) = (mD h).map (· + 1):=by
 conv=>lhs;unfold mD
 exact if_neg (fun hh=>by have:=hh.1;simp only at this;omega)
theorem waitG_t {t:List AV} {h:List Blk}:waitG SA ⟨t,h⟩ = ⟨t,h ++ [⟨0,0,0,[],SA,TA⟩]⟩:=rfl
theorem waitG_f {st:St}:waitG TA st = st:=rfl
theorem HO:wC [] = PA []:=rfl
theorem DN {x:CV} {r:List Cell}:wC (.c x :: r) = (wC r).map (x :: ·):=rfl
theorem elems_sl {h:List Blk} {e:Nat} {l:List (List CV)}:QD h e (.one (.c (.sl e l))) = PA (l.map (·.map .c)):=by simp [QD]
theorem elems_slx {h:List Blk} {e:Nat} {l:List (List CV)}:QD h e (.one (.slx e l)) = PA (l.map (·.map .c)):=by simp [QD]
theorem cut3_enc {α:Type} {e:Nat} {f:α -> List CV} (a:Option (List α)) {j:Int} (h0:0 < j) (h1:j <= (UA a).length) :
  yN e (.one (.c (jB e f a))) QA (PA (.one (.c (.val (.int .i64 j))))) (PA (.one (.c (.val (.int .i64 j))))) = PA (.one (.slx e (((UA a).take j.toNat).map f))):=by
 cases a with
 | none=>simp [UA] at h1;omega
 | some l =>
  have h1':j <= (l.length:Int):=h1
  have h2:0 <= j:=by omega
  have h3:0 < j.toNat:=by omega
  have e1:((j.toNat:Nat):Int) = j:=OA h2
  simp [jB,yN,ND,AV.int?,h2,h1',e1,h3,UA,List.map_take]
def std7:=And.intro (@phIdx_ph) (And.intro (@phIdx_no) (And.intro (@waitG_t) (And.intro (@waitG_f) (And.intro (@HO) (And.intro (@DN) (And.intro (@elems_sl) (And.intro (@elems_slx) (@cut3_enc))))))))
def std8:=And.intro (@cev.eq_def) (And.intro (@cstep.eq_def) (And.intro (@St.ev.eq_def) (And.intro (@VC.eq_def) (And.intro (@AV.cells?.eq_def) (And.intro (@AV.int?.eq_def) (And.intro (@AV.bool?.eq_def) (And.intro (@AV.str?.eq_def) (And.intro (@ZF.eq_def) (And.intro (@OR.eq_def) (And.intro (@putN.eq_def) (And.intro (@tD.eq_def) (And.intro (@ND.eq_def) (And.intro (@Value.oneCell'.eq_def) (And.intro (@opO.eq_def) (@putSt.eq_def)))))))))))))))
def qB:=And.intro (std8) (And.intro (@condG_eq) (And.intro (std0) (And.intro (std1) (And.intro (std2) (And.intro (std3) (And.intro (std4) (And.intro (std5) (And.intro (std6) (std7)))))))))
def hds0:=And.intro (@Go.Am.clean_encB) (And.intro (@List.map_cons.{0,0}) (And.intro (@List.map_nil.{0,0}) (And.intro (@List.take_succ_cons.{0}) (And.intro (@List.take_zero.{0}) (And.intro (@List.take_nil.{0}) (And.intro (@oA.{0}) (And.intro (@pA.{0}) (And.intro (@Go.Am.nltT) (And.intro (@Go.Am.nltF) (And.intro (@if_true.{0}) (And.intro (@if_false.{0}) (And.intro (@NA) (And.intro (@Int.natCast_mul) (And.intro (@Int.natCast_ediv) (And.intro (@Int.natCast_emod) (And.intro (@Int.cast_ofNat_Int) (And.intro (@Int.natCast_zero) (And.intro (@Int.natCast_one) (@Go.Am.wi64)))))))))))))))))))
def hds1:=And.intro (@Go.Am.wu64) (And.intro (@rA.{0}) (And.intro (@qA.{0}) (And.intro (@List.append_nil.{0}) (And.intro (@Int.add_sub_cancel) (And.intro (@Int.ofNat_zero) (And.intro (@Int.zero_sub) (@Int.sub_self)))))))
def pD:=And.intro (hds0) (hds1)
def sB:=And.intro (@osl_some) (And.intro (@osl_none) (And.intro (@List.length_set.{0}) (And.intro (@tA.{0}) (And.intro (@oA.{0}) (And.intro (@pA.{0}) (@sA.{0}))))))
variable {GL:Glb}
variable {P:Program} {opn:List FuncId} {h h':List Blk} {st st' s:St} {n n0 m:Nat} {Q:Exit -> St -> Prop} {K N:St -> Prop}
theorem zw1 (h:N st):fL N Q .normal st:=h
theorem zw2 (h:Q .ret st):fL N Q .ret st:=h
theorem zw3 {id:Nat} (h:Q (.exit id) st):fL N Q (.exit id) st:=h
theorem zw4 {id:Nat} (h:Q .normal st):aE id Q .normal st:=h
theorem zw5 {id:Nat} (h:Q .ret st):aE id Q .ret st:=h
theorem zw6 {id:Nat} (h:Q .normal st):aE id Q (.exit id) st:=blk_e h
theorem zw8 (h:N st):leaves N .normal st:=h
theorem zw9 (h:N st):leaves N .ret st:=h
theorem zw20 (h:Q .normal st):cH Q .normal st:=h
theorem zw21 (h:Q .ret st):cH Q .ret st:=h
theorem zw22 {id:Nat} (h:Q (.exit id) st):cH Q (.exit id) st:=h
theorem zw23 {c:CC} (h:uD P opn n0 c (cH Q) st):uD P opn n0 (.scope c) Q st:=awp_scope h
theorem zw10 {x y:CC} (h:uD P opn n0 x (fL (uD P opn n0 y Q) Q) st):uD P opn n0 (.seq x y) Q st:=awp_seq h
theorem zw11 {id:Nat} {c:CC} (h:uD P opn n0 c (aE id Q) st):uD P opn n0 (.block id c) Q st:=awp_block h
theorem zw12 (h:Q .normal st):uD P opn n0 .skip Q st:=awp_skip h
theorem zw13 {id:Nat} (h:Q (.exit id) st):uD P opn n0 (.exit id) Q st:=awp_exit h
theorem zw14 (h:Q .ret st):uD P opn n0 .ret Q st:=awp_ret h
theorem zw15 {N:List Blk -> Prop} {R:Exit -> List Blk -> Prop} (h:∃ h',N h' /\ ∃ t,TB n0 s ⟨t,h'⟩):EH n0 N R .normal s:=h
theorem zw16 {N:List Blk -> Prop} {R:Exit -> List Blk -> Prop} (h:R .ret s.h):EH n0 N R .ret s:=h
theorem zw17 {N:List Blk -> Prop} {R:Exit -> List Blk -> Prop} {id:Nat} (h:R (.exit id) s.h):EH n0 N R (.exit id) s:=h
def cnd [Glb] (P:Program) (opn:List FuncId) (n0:Nat) (x y:CC) (Q:Exit -> St -> Prop) (st:St):Bool -> Prop
 | true=>uD P opn n0 x Q st
 | false=>uD P opn n0 y Q st
theorem zw18 {x y:CC} (h:uD P opn n0 x Q st):cnd P opn n0 x y Q st SA:=h
theorem zw19 {x y:CC} (h:uD P opn n0 y Q st):cnd P opn n0 x y Q st TA:=h
theorem zb3 {c:Operand} {x y:CC} (h:∀ K:Bool -> Prop,K = cnd P opn n0 x y Q st -> condG (st.ev c) K):uD P opn n0 (.cond c x y) Q st:=by
 have h:=h _ rfl
 unfold condG at h
 split at h
 ·rename_i b hv
  exact awp_cond hv (fun e=>by rw [e] at h;exact h) (fun e=>by rw [e] at h;exact h)
 ·exact h.elim
theorem zb1 (hm:P.follows .mixedOrders = SA) {cos:List CO} (h:∀ K':St -> Prop,K' = Q .normal -> lL P opn (gO cos st) K'):uD P opn n0 (.reg cos) Q st:=awp_runK hm h
theorem zb4 (hm:P.follows .mixedOrders = SA) {g:Bool} {cos:List CO} (h:∀ K':St -> Prop,K' = Q .normal -> lL P opn (gO cos (waitG g st)) K'):uD P opn n0 (.regn g cos) Q st:=by
 refine awp_regn hm ?_
 exact wN h
theorem zb2 {cos:List CO} (h:∀ K':St -> Prop,K' = K -> lL P opn (gO cos st) K'):dC P opn cos st K:=wN h
class Way (G:Prop) (G':outParam Prop):Prop where
 imp:G' -> G
class Mixed (P:Program):Prop where
 mixed:P.follows .mixedOrders = SA
class WayR (G:Prop) (α:outParam Type) (k:outParam α) (F:outParam (α -> Prop)):Prop where
 imp:(∀ K,K = k -> F K) -> G
instance:Way (fL N Q .normal st) (N st):=⟨zw1⟩
instance:Way (fL N Q .ret st) (Q .ret st):=⟨zw2⟩
instance {id:Nat}:Way (fL N Q (.exit id) st) (Q (.exit id) st):=⟨zw3⟩
instance {id:Nat}:Way (aE id Q .normal st) (Q .normal st):=⟨zw4⟩
instance {id:Nat}:Way (aE id Q .ret st) (Q .ret st):=⟨zw5⟩
instance {id:Nat}:Way (aE id Q (.exit id) st) (Q .normal st):=⟨zw6⟩
instance:Way (leaves N .normal st) (N st):=⟨zw8⟩
instance:Way (leaves N .ret st) (N st):=⟨zw9⟩
instance:Way (cH Q .normal st) (Q .normal st):=⟨zw20⟩
instance:Way (cH Q .ret st) (Q .ret st):=⟨zw21⟩
instance {id:Nat}:Way (cH Q (.exit id) st) (Q (.exit id) st):=⟨zw22⟩
instance {c:CC}:Way (uD P opn n0 (.scope c) Q st) (uD P opn n0 c (cH Q) st):=⟨zw23⟩
instance {x y:CC}:Way (uD P opn n0 (.seq x y) Q st) (uD P opn n0 x (fL (uD P opn n0 y Q) Q) st):=⟨zw10⟩
instance {id:Nat} {c:CC}:Way (uD P opn n0 (.block id c) Q st) (uD P opn n0 c (aE id Q) st):=⟨zw11⟩
instance:Way (uD P opn n0 .skip Q st) (Q .normal st):=⟨zw12⟩
instance {id:Nat}:Way (uD P opn n0 (.exit id) Q st) (Q (.exit id) st):=⟨zw13⟩
instance:Way (uD P opn n0 .ret Q st) (Q .ret st):=⟨zw14⟩
instance {N:List Blk -> Prop} {R:Exit -> List Blk -> Prop}:Way (EH n0 N R .normal s) (∃ h',N h' /\ ∃ t,TB n0 s ⟨t,h'⟩):=⟨zw15⟩
instance {N:List Blk -> Prop} {R:Exit -> List Blk -> Prop}:Way (EH n0 N R .ret s) (R .ret s.h):=⟨zw16⟩
instance {N:List Blk -> Prop} {R:Exit -> List Blk -> Prop} {id:Nat}:Way (EH n0 N R (.exit id) s) (R (.exit id) s.h):=⟨zw17⟩
instance {x y:CC}:Way (cnd P opn n0 x y Q st SA) (uD P opn n0 x Q st):=⟨zw18⟩
instance {x y:CC}:Way (cnd P opn n0 x y Q st TA) (uD P opn n0 y Q st):=⟨zw19⟩
instance [hm:Mixed P] {cos:List CO}:WayR (uD P opn n0 (.reg cos) Q st) (St -> Prop) (Q .normal) (lL P opn (gO cos st)):=⟨zb1 hm.mixed⟩
instance [hm:Mixed P] {g:Bool} {cos:List CO}:WayR (uD P opn n0 (.regn g cos) Q st) (St -> Prop) (Q .normal) (lL P opn (gO cos (waitG g st))):=⟨zb4 hm.mixed⟩
instance {cos:List CO}:WayR (dC P opn cos st K) (St -> Prop) K (lL P opn (gO cos st)):=⟨zb2⟩
instance {c:Operand} {x y:CC}:WayR (uD P opn n0 (.cond c x y) Q st) (Bool -> Prop) (cnd P opn n0 x y Q st) (condG (st.ev c)):=⟨zb3⟩
theorem KB {t:List AV} {h:List Blk} {dst:Option Tmp} {f:FuncId} {args:List Operand} {as cas:List AV} {av:AV} {os:List CO} (hp:YA P f cas (.ret av)) (ha:sC ⟨t,h⟩ (.func f) args = PA (f,as)) (hcl:as.mapM (VB h 3) = PA cas)
  (hu:(as.map (kC h 3)).flatten = []) (hk:dC P opn os ⟨VC t dst av,h⟩ K):qD P opn ⟨dst,QA,.callf (.func f) args⟩ os ⟨t,h⟩ K:=call_any hp ha hcl hu hk
def NE:=And.intro (@List.map_cons.{0,0}) (And.intro (@List.map_nil.{0,0}) (And.intro (@List.append_nil.{0}) (And.intro (@List.getD_cons_zero.{0}) (And.intro (@List.getD_cons_succ.{0}) (And.intro (@rA.{0}) (@qA.{0}))))))
def YH:=And.intro (@qA.{0}) (And.intro (@List.append_nil.{0}) (And.intro (@rA.{0}) (And.intro (@AJ) (And.intro (@oC) (And.intro (@JQ) (And.intro (@DO) (And.intro (@List.contains_cons.{0}) (And.intro (@List.contains_nil.{0}) (And.intro (@Bool.or_false) (And.intro (@KA) (And.intro (@Bool.false_or) (And.intro (@Bool.true_or) (@beq_self_eq_true.{0})))))))))))))
def pC:=And.intro (@oA.{0}) (And.intro (@pA.{0}) (And.intro (@List.replicate_succ.{0}) (And.intro (@List.replicate_zero.{0}) (And.intro (@rA.{0}) (@qA.{0})))))
def rnd:=And.intro (@List.zip_cons_cons.{0,0}) (And.intro (@List.zip_nil_left.{0,0}) (And.intro (@List.foldl_cons.{0,0}) (And.intro (@List.foldl_nil.{0,0}) (And.intro (@lA.{0}) (And.intro (@mA.{0}) (And.intro (@List.getD_cons_succ.{0}) (And.intro (@List.getD_cons_zero.{0}) (And.intro (@oA.{0}) (@pA.{0})))))))))
end Go.Am
namespace Go.Am
open Go.RowKit
variable {GL:Glb}
variable {P:Program} {opn:List FuncId} {w w':World} {M0:Nat -> Prop} {h h0 h1 h2 h':List Blk} {hd hd':Nat -> Value} {B0:Nat} {bad bad':Nat -> Prop} {X:Ctx} {st st':St} {a:Act} {t t' t2:List AV}
 {rd:Option Nat} {n n0:Nat} {Q:Exit -> Act -> World -> Prop}
theorem jM:∀ (ps:List Tmp) (avs:List AV) (t:List AV),(VG ps avs t).length = t.length
 | [],avs,t=>by cases avs <;> rfl
 | p :: ps,[],t=>rfl
 | p :: ps,x :: avs,t=>by
  show (VG ps avs (t.set p x)).length = t.length
  rw [jM ps avs];simp
theorem kM (w:World) (c c':Array Value) (t:TypeId):(w.alloc (.cells c t)).setRow w.heap.size c' = w.alloc (.cells c' t):=by
 simp only [World.setRow,World.alloc]
 congr 1
 apply Array.ext
 ·simp
 ·intro i h1 h2
  simp only [Array.getElem_modify,Array.getElem_push]
  have:i <= w.heap.size:=by simp at h2;omega
  by_cases h:w.heap.size = i
  ·subst h;simp
  ·rw [if_neg h,dif_pos (by omega),dif_pos (by omega)]
theorem box_ok {F:Fence} {code:Code} {d s:Tmp} {ty:TypeId} {m:Nat} {us:List Value} {Q:Exit -> Act -> World -> Prop} (hb:boxCode P code = PA (d,ty,m,s)) (hd:d < a.tmps.size) (hs:a.tmps.getD s undef = .agg us.toArray) (hl:us.length = m) (h1:∀ v ∈ us,v.oneCell' = SA)
  (hQ:Q .normal { a with tmps:=a.tmps.setIfInBounds d (.pointer (PA ⟨w.heap.size,0,QA⟩)) } (w.alloc (.cells us.toArray ty))):code.wpIn F n P Q a w:=by
 cases code with
 | region id ops drawn =>
  cases drawn with
  | true=>cases hb
  | false =>
   simp only [boxCode] at hb
   split at hb
   ·rename_i o1 o2 hops
    unfold boxOps at hb
    split at hb
    ·rename_i d0 t0 t1 d1 s0 hg1 hd1 ho1 hg2 hd2 ho2
     split at hb
     ·rename_i zs k hz hk
      split at hb
      ·rename_i hc
       obtain ⟨rfl,rfl,hzl,hsd⟩:=hc
       simp only [BA,MA] at hb
       obtain ⟨rfl,rfl,rfl,rfl⟩:=hb
       have e0:ops[0]? = PA o1:=by rw [<- Array.getElem?_toList,hops];rfl
       have e1:ops[1]? = PA o2:=by rw [<- Array.getElem?_toList,hops];rfl
       have esz:ops.size = 2:=by rw [<- Array.length_toList,hops];rfl
       refine wpIn_region ?_
       rw [esz]
       show wpOpsIn F n P ops Q [0,1] a w
       rw [wpOpsIn_cons]
       unfold wpOpIn
       rw [e0]
       simp only
       rw [if_pos (by unfold Region.wanted;rw [hg1])]
       refine ⟨fun f hf=>by simp [Oper.about,ho1] at hf,?_⟩
       rw [Oper.semAt_eq _ _ _ (by simp [ho1])]
       have hz':=hz
       unfold TG at hz'
       cases hi:P.info? t1 with
       | none=>simp [hi] at hz'
       | some i =>
        cases hq:i.zero with
        | none=>simp [hi,hq] at hz'
        | some z =>
         simp only [hi,hq,Option.bind_some,Option.map_some,BA] at hz'
         have r1:(execOp a.eval o1).run P w = .ok (.value (.pointer (PA ⟨w.heap.size,0,QA⟩))) (w.alloc (.cells zs.toArray t1)):=by
          simp [execOp,ho1,Instr.alloc,zeroValue,typeInfo,hi,hq,newVar,newRow,Result.andThen,<- hz']
         rw [r1,Oper.uponIn_value,hd1,wpOpsIn_cons]
         unfold wpOpIn
         rw [e1]
         simp only
         rw [if_pos (by unfold Region.wanted;rw [hg2])]
         refine ⟨fun f hf=>by simp [Oper.about,ho2] at hf,?_⟩
         rw [Oper.semAt_eq _ _ _ (by simp [ho2])]
         have ev1:(a.put (PA d1) (.pointer (PA ⟨w.heap.size,0,QA⟩))).eval (.tmp d1) = .pointer (PA ⟨w.heap.size,0,QA⟩):=by
          show (a.tmps.setIfInBounds d1 _).getD d1 undef = _
          simp [Array.getD,hd]
         have ev2:(a.put (PA d1) (.pointer (PA ⟨w.heap.size,0,QA⟩))).eval (.tmp s0) = .agg us.toArray:=by
          show (a.tmps.setIfInBounds d1 _).getD s0 undef = _
          rw [<- hs]
          simp only [Array.getD,Array.size_setIfInBounds]
          split
          ·exact Array.getElem_setIfInBounds_ne _ (Ne.symm hsd)
          ·rfl
         have hst:=run_storeCells_at (P:=P) w.heap.size 0 t1 us 0 zs.toArray (w.alloc (.cells zs.toArray t1)) (World.alloc_heap_new w _) (by simp;omega) h1
         have hw2:(w.alloc (.cells zs.toArray t1)).setRow w.heap.size (zs.toArray.toList.take (0 + 0) ++ us ++ zs.toArray.toList.drop (0 + 0 + us.length)).toArray = w.alloc (.cells us.toArray t1):=by
          have:zs.drop us.length = []:=List.drop_eq_nil_of_le (by omega)
          simp only [Nat.add_zero,Nat.zero_add,List.take_zero,qA,this,List.append_nil]
          exact kM _ _ _ _
         rw [hw2] at hst
         have hk':=hk
         unfold rE at hk'
         simp only [hi,Option.map_some,BA] at hk'
         have r2:(execOp (a.put (PA d1) (.pointer (PA ⟨w.heap.size,0,QA⟩))).eval o2).run P (w.alloc (.cells zs.toArray t1)) = .ok .skip (w.alloc (.cells us.toArray t1)):=by
          simp [execOp,ho2,ev1,ev2,Instr.storeAt,Instr.sureAddr,storeVar,sizeOf,typeInfo,hi,hk',Value.cells,hl,hst,Result.andThen]
         rw [r2,Oper.uponIn_skip,hd2]
         exact hQ
      ·cases hb
     ·cases hb
    ·cases hb
   ·cases hb
 | _=>cases hb
theorem awp_rfb {α:Type} {g:Operand} {ps:List Tmp} {d:Tmp} {ty:TypeId} {m:Nat} {s:Tmp} {body:CC} {Q:Exit -> St -> Prop} {gf:FuncId} {caps:List Cell} (hg:st.ev g = .one (.fn gf caps)) (hcaps:∀ c ∈ caps,wE c = SA) {encs:α -> List AV} {S Sp:List α -> Prop} {N:Nat}
  (hit:oT P gf caps encs ps.length S Sp N) (Inv:List α -> List Blk -> Prop) (hInv0:Inv [] st.h) (R:List α -> Exit -> List Blk -> Prop)
  (hdt:d < st.t.length) (cells:α -> List CV) (hcl:∀ x,(VG ps (encs x) st.t).getD s .junk = .agg ((cells x).map .c)) (hm:∀ x,(cells x).length = m) (hty:∀ pre h,Inv pre h -> ∀ k ∈ h,k.ty ≠ ty)
  (hround:∀ pre x h,pre.length < N -> Inv pre h -> uD P opn st.h.length body (EH st.h.length (Inv (pre ++ [x])) (R (pre ++ [x]))) ⟨(VG ps (encs x) st.t).set d (.one (.iptr (cells x))),h⟩)
  (hdone:∀ xs h,S xs -> Inv xs h -> Q .normal ⟨st.t,h⟩) (hstop:∀ e pre h',Sp pre -> R pre e h' -> Q e ⟨st.t,h'⟩):uD P opn n0 (.rfb g ps d ty m s body) Q st:=by
 intro code hc X n hd a w hX r
 cases code with
 | rangeFunc g' ps' ca cb =>
  simp only [ZA] at hc
  split at hc
  ·cases hc
  ·rename_i d' t' m' s' b' hms hbx hcb
   simp only [BA,CC.rfb.injEq] at hc
   obtain ⟨rfl,rfl,rfl,rfl,rfl,rfl,rfl⟩:=hc
   have hBw:BW X w:=r.bw
   have hgv:=r.sees g'
   rw [hg] at hgv
   obtain ⟨hcall,hnp,hit⟩:=hit
   have hbadlt:∀ g,iB X.M0 st.h hd g -> g < w.heap.size:=fun g hg=>by
    rcases hg with hm | ⟨b,k,hk,_,hb⟩
    ·exact r.M0_lt g hm
    ·exact (r.heap.lt hk hb).2
   obtain ⟨vs,hev,hvs⟩:∃ vs:List Value,a.eval g' = .func (.func gf) #[] vs.toArray /\ PW (VR w (iB X.M0 st.h hd) [] bE) caps vs:=by
    generalize a.eval g' = u at hgv
    cases hgv with
    | one _ _ hx =>
     cases hx with
     | fn _ _ vs hl hv=>exact ⟨vs,rfl,hl,fun i c v h1 h2=>(hv i c v h1 h2).closed (hcaps c (List.mem_of_getElem? h1))⟩
   obtain ⟨enc,henc,hseq⟩:=hit w _ vs ⟨hbadlt,r.gbad⟩ hvs
   have hps:∀ x,((enc x).toArray).size = ps'.size:=fun x=>by
    have h1:=(henc x).1
    have h2:=hnp x
    simp only [List.size_toArray]
    rw [<- h1,h2]
    simp
   let tm:α -> Array Value:=fun x=>(ps'.zip ((enc x).toArray)).foldl (fun t (p,v)=>t.setIfInBounds p v) a.tmps
   have hTr0:Tr w (iB X.M0 st.h hd) st.h hd w (iB X.M0 st.h hd) st.h hd:=.refl _ _ _ _
   have hval:∀ x,∃ us:List Value,(tm x).getD s' undef = .agg us.toArray /\ us.length = m' /\ PW (CR w (iB X.M0 st.h hd)) (cells x) us:=fun x=>by
    have hg:=getD_pw (a:={ tmps:=tm x,defers:=[] }) (lJ (x:=x) henc r.slots hTr0) s'
    rw [hcl x] at hg
    change AVR w (iB X.M0 st.h hd) st.h hd (.agg ((cells x).map .c)) ((tm x).getD s' undef) at hg
    generalize (tm x).getD s' undef = u at hg
    cases hg with
    | agg _ us hl hv =>
     refine ⟨us,rfl,by rw [<- hl,eA,hm],by simpa using hl,fun i c v h1 h2=>?_⟩
     have:=hv i (.c c) v (by rw [List.getElem?_map,h1];rfl) h2
     cases this;assumption
   refine rf_core hcb r hev hcall hseq hps Inv hInv0 R (fun x=>(VG ps'.toList (encs x) st.t).set d' (.one (.iptr (cells x)))) hBw
    (fun x a' W=>∃ B us,w.heap.size <= B /\ (tm x).getD s' undef = .agg us /\ W.heap[B]? = PA (.cells us t' (0,0)) /\ a' = { tmps:=(tm x).setIfInBounds d' (.pointer (PA ⟨B,0,QA⟩)),defers:=[] }) ?_ ?_ ?_ hround hdone hstop
   ·rintro x a' _ A B row ⟨B0,us,h1,h2,h3,h4⟩ hg hr
    exact ⟨B0,us,h1,h2,(kL hg (fun g e=>(hr g e).2)).2 _ _ _ _ h3,h4⟩
   ·rintro F m l pre x W K ⟨hh,hinv,hdI,rI⟩ hK
    obtain ⟨us,hus,hul,hpw⟩:=hval x
    refine box_ok (us:=us) hbx (by have h1:_ = (tm x).toList.length:=(lJ (x:=x) henc r.slots hTr0).1;rw [jM,Array.length_toList] at h1;rw [h1] at hdt;exact hdt) hus hul (fun v hv=>?_) ?_
    ·obtain ⟨i,hi,rfl⟩:=List.getElem_of_mem hv
     exact (hpw.2 i _ _ (aA (by rw [hpw.1];exact hi)) (aA hi)).oneCell
    ·have hgr:W.grownBy (W.alloc (.cells us.toArray t')) QA:=World.grownBy_alloc W _ QA
     have hX1k:∀ k o,(rfX X st hd w hBw).keep k o -> k < (rfX X st hd w hBw).w0.heap.size:=fun k o hk=>(Array.getElem?_eq_some_iff.1 hk.1).1
     refine hK _ _ ⟨hgr.size,fun k o _ hk _=>(hgr.block k (Array.getElem?_eq_some_iff.1 hk).1 (by simp)).trans hk⟩ ⟨hgr.size,fun g _ _ cs t o hc=>(hgr.block g (Array.getElem?_eq_some_iff.1 hc).1 (by simp)).trans hc⟩
      ⟨hh,hinv,hdI,rI.own rfl hX1k hgr (by simp)⟩ ⟨W.heap.size,us.toArray,rI.tr.size,hus,World.alloc_heap_new W _,rfl⟩
   ·rintro x a' W hh hdI pre hinv rI ⟨B,us,hB,hus,hWB,rfl⟩
    have hTr:Tr w (iB X.M0 st.h hd) st.h hd W (iB X.M0 hh hdI) hh hdI:=rI.tr
    obtain ⟨us',hus',hul,hpw⟩:=hval x
    rw [hus] at hus'
    simp only [Value.agg.injEq] at hus'
    subst hus'
    refine ⟨?_,rfl⟩
    rw [Array.toList_setIfInBounds]
    refine (lJ henc r.slots hTr).set d' (.one _ _ (.iptr _ _ _ (fun j=>us'.getD j undef) ?_ (Array.getElem?_eq_some_iff.1 hWB).1 ?_ ?_))
    ·rintro (hM | ⟨b,k,hk,_,hb⟩)
     ·have:=r.M0_lt B hM;omega
     ·obtain ⟨_,xs,ho,_⟩:=rI.heap.blk b k hk
      rcases ho.2 with ⟨h1,_⟩ | ⟨g,cap,cur,h1,_,h2,_⟩
      ·rw [h1] at hb;cases hb
      ·rw [h1] at hb
       simp only [Value.ownBlock,BA] at hb
       subst hb
       rw [hWB] at h2
       simp only [BA,Obj.cells.injEq] at h2
       exact hty pre hh hinv k (List.mem_of_getElem? hk) h2.2.1.symm
    ·intro j y hj
     have hlt:j < us'.length:=by rw [<- hpw.1];exact (dA.1 hj).1
     simp [World.cell?,hWB,hlt]
    ·intro j y hj
     have hlt:j < us'.length:=by rw [<- hpw.1];exact (dA.1 hj).1
     have:=(hpw.2 j y _ hj (aA hlt)).tr hTr.blk hTr.ok hTr.size
     simpa [hlt] using this
  ·cases hc
 | region id ops drawn=>simp only [ZA] at hc;rcases eE hc with ⟨_,h⟩ | ⟨_,_,h⟩ <;> cases h
 | seq c x=>simp only [ZA] at hc;split at hc <;> cases hc
 | cond c x y=>simp only [ZA] at hc;split at hc <;> cases hc
 | block id c=>simp [ZA] at hc
 | scope c=>simp [ZA] at hc
 | loop c=>simp [ZA] at hc
 | _=>cases hc
end Go.Am
namespace Go.Am
open Go.RowKit
variable {GL:Glb}
variable {P:Program} {opn:List FuncId} {w w':World} {M0:Nat -> Prop} {h h0 h1 h2 h':List Blk} {hd hd':Nat -> Value} {B0:Nat} {bad bad':Nat -> Prop} {X:Ctx} {st st':St} {a:Act} {t t' t2:List AV}
 {ops:Array Oper} {cos:List CO} {rd:Option Nat} {n:Nat} {Q:Exit -> Act -> World -> Prop}
def kK (P:Program) (ops:Array Oper) (cos:List CO) (m:Nat):Prop :=
 cos.length = m /\ ∀ (i:Nat) (o:Oper) (co:CO),i < m -> ops[i]? = PA o -> cos[i]? = PA co -> YI P ops o co
def preOkA (opn:List FuncId) (ops:Array Oper) (cos:List CO) (A:List (List Nat)) (m:Nat):Bool :=
 (List.range ops.size).all fun i =>
  (match ops[i]? with
   | some o=>(WE o).all (fun d=>Nat.blt d i) && (A.getD i []).all fun p=>(WE o).contains p || (WE o).any fun d=>(A.getD d []).contains p
   | none=>SA) &&
  (if i < m then (List.range i).all (fun p=>(A.getD i []).contains p || gH opn cos p i) else (List.range m).all fun p=>(A.getD i []).contains p)
def pM (co:CO):Bool:=co.guard.isNone && (match co.op with | .callf _ _=>TA | _=>SA)
theorem od_q (r:Rel X st hd a w) {o:Oper} {co:CO} {i:Nat} {K:Act -> World -> Prop} (hi:ops[i]? = PA o) (hc:YI P ops o co) (hs:OD P opn co st st') (hq:pM co = SA)
  (hK:∀ hd' v w',Rel X st' hd' (a.put co.dst v) w' -> K (a.put co.dst v) w'):wpOpIn (Wd rd) n P ops Q i K a w:=by
 obtain ⟨hdst,hcop,hgd⟩:=hc
 obtain ⟨av,h',hv,rfl⟩:=hs
 unfold pM at hq
 simp only [JA,Option.isNone_iff_eq_none] at hq
 obtain ⟨hcg,hcf⟩:=hq
 unfold wpOpIn
 rw [hi]
 simp only
 unfold OV at hv
 rw [hcg] at hv
 simp only at hv
 have hg:o.guard = QA:=by
  cases hg:o.guard with
  | none=>rfl
  | some jw =>
   obtain ⟨j,want⟩:=jw
   rw [hg] at hgd
   obtain ⟨x,hx,hgd⟩:=hgd
   rw [hcg] at hgd
   cases hgd
 have hw:Region.wanted o (yielded ops a.tmps) = SA:=by unfold Region.wanted;rw [hg]
 rw [if_pos hw]
 refine ⟨fun f _=>trivial,?_⟩
 have hsem:o.semAt (Wd rd).round a.eval = execOp a.eval o:=Oper.semAt_eq _ _ _ (IM hcop)
 rw [hsem]
 have hst:cstep st co.op = PA (av,h'):=by
  cases hop:co.op with
  | callf f args=>rw [hop] at hcf;cases hcf
  | _=>rw [hop] at hv;exact hv
 obtain ⟨nx,w',hd',row,hrun,hgb,hro,H',T,hv⟩:=cstep_ok r.heap r.M0_lt r.B0_le r.sees hcop hst
 rw [hrun]
 rw [hdst] at hK
 rcases hv with ⟨v,rfl,hav⟩ | ⟨rfl,hdn⟩
 ·exact hK hd' _ _ (r.step hgb hro H' T hav)
 ·show K (a.put o.dst undef) w'
  refine hK hd' _ _ ?_
  have hj':=r.step (dst:=QA) (av:=.junk) (v:=undef) hgb hro H' T (.junk _)
  rw [hdn]
  exact hj'
theorem anyIn_pre {m k:Nat} (hsz0:ops.size = m + k) (hc:kK P ops cos m) {A:List (List Nat)} (hA:preOkA opn ops cos A m = SA)
  (hq:∀ co ∈ cos,pM co = SA) {G:Act -> Prop} (hG:∀ co ∈ cos,∀ a v,G a -> G (a.put co.dst v)) (hK:∀ hd' a' w' (listed:Array Bool),Rel X st' hd' a' w' -> G a' -> listed.size = ops.size -> (∀ i,i < ops.size -> (listed.getD i SA = SA ↔ i < m)) -> wpAnyIn (Wd rd) n P .any ops Q k listed a' w') :
  ∀ (fuel:Nat) (r:List Nat) (listed:Array Bool) (st:St) (hd:Nat -> Value) (a:Act) (w:World),fuel = r.length + k -> r.Pairwise (· < ·) -> (∀ i ∈ r,i < m) -> listed.size = ops.size ->
   (∀ i,i < ops.size -> (listed.getD i SA = SA ↔ i < m /\ i ∉ r)) -> (∀ j,j < m -> j ∉ r -> ∀ p ∈ A.getD j [],p ∉ r) ->
   Rel X st hd a w -> G a -> rD P opn (r.filterMap (cos[·]?)) st st' -> wpAnyIn (Wd rd) n P .any ops Q fuel listed a w:=by
 have hspec:∀ i o,ops[i]? = PA o -> (∀ d ∈ WE o,d < i) /\ (∀ p ∈ A.getD i [],p ∈ WE o \/ ∃ d ∈ WE o,p ∈ A.getD d []) /\ (i < m -> ∀ p,p < i -> p ∈ A.getD i [] \/ gH opn cos p i = SA) /\ (m <= i -> ∀ p,p < m -> p ∈ A.getD i []):=fun i o ho=>by
  have hlt:i < ops.size:=(Array.getElem?_eq_some_iff.1 ho).1
  have:=List.all_eq_true.1 hA i (zA.2 hlt)
  rw [ho] at this
  simp only [JA,List.all_eq_true,Bool.or_eq_true,List.contains_iff_mem,List.any_eq_true] at this
  refine ⟨fun d hd=>by simpa using this.1.1 d hd,this.1.2,fun him=>?_,fun him=>?_⟩
  ·have h2:=this.2
   rw [if_pos him] at h2
   simpa only [List.all_eq_true,Bool.or_eq_true,List.contains_iff_mem,zA] using h2
  ·have h2:=this.2
   rw [if_neg (by omega)] at h2
   simpa only [List.all_eq_true,List.contains_iff_mem,zA] using h2
 have hgd:∀ (listed:Array Bool) i,i < listed.size -> listed.getD i SA = listed.getD i TA:=fun listed i hi=>by simp [Array.getD,hi]
 have hdeps:∀ o e,e ∈ o.after -> Region.binds .any e = SA -> e.on ∈ WE o:=fun o e he hb =>
  yA.2 ⟨e,List.mem_filter.2 ⟨by simpa using he,hb⟩,rfl⟩
 have done:∀ (r:List Nat) (listed:Array Bool),r.Pairwise (· < ·) -> (∀ i ∈ r,i < m) -> listed.size = ops.size -> (∀ i,i < ops.size -> (listed.getD i SA = SA ↔ i < m /\ i ∉ r)) ->
   Region.ready .any ops listed = [] -> r = []:=fun r listed hp hlt hsz hl hr=>by
  cases r with
  | nil=>rfl
  | cons i r =>
   exfalso
   have him:i < m:=hlt i (by simp)
   have hi:i < ops.size:=by omega
   have ho:ops[i]? = PA ops[i]:=by simp [hi]
   have hin:i ∈ Region.ready .any ops listed:=by
    rw [mem_ready]
    refine ⟨?_,_,ho,fun e he hb=>?_⟩
    ·cases hq:listed.getD i SA with
     | false=>rfl
     | true=>exact absurd ((hl i hi).1 hq).2 (by simp)
    ·have hd:=(hspec i _ ho).1 _ (hdeps _ e he hb)
     have pD:e.on < ops.size:=Nat.lt_trans hd hi
     rw [<- hgd listed _ (by rw [hsz];exact pD)]
     refine (hl _ pD).2 ⟨by omega,fun hm=>?_⟩
     simp only [List.mem_cons] at hm
     rcases hm with he' | hm
     ·omega
     ·have:=List.rel_of_pairwise_cons hp hm
      omega
   rw [hr] at hin
   cases hin
 intro fuel
 induction fuel with
 | zero =>
  intro r listed st hd a w hlen hp hlt hsz hl hdc R hd0 hrun
  have:r = []:=List.eq_nil_of_length_eq_zero (by omega)
  subst this
  cases hrun
  obtain rfl:k = 0:=by simpa using hlen.symm
  exact hK hd a w listed R hd0 hsz (fun i hi=>by rw [hl i hi];simp)
 | succ fuel ih =>
  intro r listed st hd a w hlen hp hlt hsz hl hdc R hd0 hrun
  by_cases hrn:r = []
  ·subst hrn
   cases hrun
   obtain rfl:k = fuel + 1:=by simpa using hlen.symm
   exact hK hd a w listed R hd0 hsz (fun i hi=>by rw [hl i hi];simp)
  refine ⟨fun hq=>absurd (done r listed hp hlt hsz hl hq) hrn,fun i hin=>?_⟩
  ·obtain ⟨h0,o,ho,hall⟩:=mem_ready.1 hin
   have hi:i < ops.size:=(Array.getElem?_eq_some_iff.1 ho).1
   have hdl:∀ d ∈ WE o,d < m /\ d ∉ r:=fun d hd=>by
    obtain ⟨e,he,rfl⟩:=yA.1 hd
    obtain ⟨he1,he2⟩:=List.mem_filter.1 he
    have pD:e.on < ops.size:=Nat.lt_trans ((hspec i o ho).1 _ hd) hi
    exact (hl _ pD).1 (by rw [hgd listed _ (by rw [hsz];exact pD)];exact hall e (by simpa using he1) he2)
   have him:i < m:=by
    refine Decidable.byContradiction fun hn=>?_
    obtain ⟨p,hp'⟩:∃ p,p ∈ r:=by
     cases r with
     | nil=>exact absurd rfl hrn
     | cons p r=>exact ⟨p,by simp⟩
    rcases (hspec i o ho).2.1 p ((hspec i o ho).2.2.2 (by omega) p (hlt p hp')) with h1 | ⟨d,h1,h2⟩
    ·exact (hdl p h1).2 hp'
    ·exact hdc d (hdl d h1).1 (hdl d h1).2 p h2 hp'
   have hir:i ∈ r:=by
    refine Decidable.byContradiction fun hn=>?_
    have:=(hl i hi).2 ⟨him,hn⟩
    rw [h0] at this
    cases this
   obtain ⟨pre,post,rfl⟩:=List.append_of_mem hir
   have hpp:=List.pairwise_append.1 hp
   have hpre:∀ p ∈ pre,p < i:=fun p hpm=>hpp.2.2 p hpm i (by simp)
   have hpost:∀ p ∈ post,i < p:=fun p hpm=>List.rel_of_pairwise_cons hpp.2.1 hpm
   have hlisted:∀ d ∈ WE o,d ∉ pre ++ i :: post:=fun d hd=>by
    obtain ⟨e,he,rfl⟩:=yA.1 hd
    obtain ⟨he1,he2⟩:=List.mem_filter.1 he
    exact (hdl _ hd).2
   have hAi:∀ p ∈ A.getD i [],p ∉ pre ++ i :: post:=fun p hpA=>by
    rcases (hspec i o ho).2.1 p hpA with hd | ⟨d,hd,hpd⟩
    ·exact hlisted p hd
    ·exact hdc d (hdl d hd).1 (hlisted d hd) p hpd
   have hco:cos[i]? = PA (cos[i]'(by rw [hc.1];exact him)):=by simp [hc.1,him]
   generalize hcoi:(cos[i]'(by rw [hc.1];exact him)) = co at hco
   rw [List.filterMap_append,List.filterMap_cons,hco] at hrun
   obtain ⟨sp,hr1,sq,hr2,hr3⟩:=rD.append hrun
   obtain ⟨s1,ho1,hrest⟩:=rD.move hr1 hr2 (fun c hcm=>by
    obtain ⟨p,hpm,hpc⟩:=List.mem_filterMap.1 hcm
    rcases (hspec i o ho).2.2.1 him p (hpre p hpm) with hA' | hind
    ·exact absurd (by simp [hpm]) (hAi p hA')
    ·unfold gH at hind
     rw [hpc,hco] at hind
     exact hind) (fun x hx=>(R.sees x).scopedV) (fun e=>absurd e (XI (hc.2 i o co him ho hco)))
   refine od_q R ho (hc.2 i o co him ho hco) ho1 (hq co (List.mem_of_getElem? hco)) (fun hd' v w' R'=>?_)
   refine ih (pre ++ post) (listed.setIfInBounds i SA) s1 hd' _ w' ?_ ?_ ?_ ?_ ?_ ?_ R' (hG co (List.mem_of_getElem? hco) _ _ hd0) ?_
   ·simp only [sA,oA] at hlen ⊢;omega
   ·exact hp.sublist (by simp)
   ·exact fun j hj=>hlt j (by simp only [List.mem_append,List.mem_cons] at hj ⊢;rcases hj with h | h <;> simp [h])
   ·simpa using hsz
   ·intro j hj
    have hni:i ∉ pre ++ post:=fun hm=>by
     rcases List.mem_append.1 hm with hm | hm
     ·have:=hpre i hm;omega
     ·have:=hpost i hm;omega
    by_cases he:i = j
    ·subst he
     refine ⟨fun _=>⟨him,hni⟩,fun _=>?_⟩
     simp [Array.getD,hsz,hi]
    ·rw [getD_set_ne SA he,hl j hj]
     simp only [List.mem_append,List.mem_cons]
     constructor
     ·intro h1;exact ⟨h1.1,fun h2=>h1.2 (h2.elim .inl (fun h=>.inr (.inr h)))⟩
     ·intro h1;exact ⟨h1.1,fun h2=>h1.2 (h2.elim .inl (fun h=>h.elim (fun e=>absurd e.symm he) .inr))⟩
   ·intro j hj hjn p hpA hpm
    have hpm':p ∈ pre ++ i :: post:=by simp only [List.mem_append,List.mem_cons] at hpm ⊢;rcases hpm with h | h <;> simp [h]
    by_cases he:j = i
    ·subst he;exact hAi p hpA hpm'
    ·refine hdc j hj (fun hm=>hjn ?_) p hpA hpm'
     simp only [List.mem_append,List.mem_cons] at hm ⊢
     rcases hm with h | h | h
     ·exact .inl h
     ·exact absurd h he
     ·exact .inr h
   ·rw [List.filterMap_append]
    exact rD.join hrest hr3
theorem nR {F:Fence}:∀ (k m:Nat) (listed:Array Bool) (a:Act) (w:World),ops.size = m + k -> (∀ i o,m <= i -> ops[i]? = PA o -> ∀ d ∈ WE o,d < i) -> (∀ i o,m < i -> ops[i]? = PA o -> i - 1 ∈ WE o) ->
  listed.size = ops.size -> (∀ i,i < ops.size -> (listed.getD i SA = SA ↔ i < m)) -> wpOpsIn F n P ops Q ((List.range k).map (m + ·)) a w -> wpAnyIn F n P .any ops Q k listed a w
 | 0,m,listed,a,w,hsz,hd,hch,hls,hl,h=>by
  refine ⟨?_,h⟩
  cases hq:Region.ready .any ops listed with
  | nil=>rfl
  | cons i l =>
   exfalso
   have hin:i ∈ Region.ready .any ops listed:=by rw [hq];simp
   obtain ⟨h0,o,ho,_⟩:=mem_ready.1 hin
   have hi:=(Array.getElem?_eq_some_iff.1 ho).1
   have:=(hl i hi).2 (by omega)
   rw [h0] at this
   cases this
 | k + 1,m,listed,a,w,hsz,hd,hch,hls,hl,h=>by
  have hgd:∀ i,i < listed.size -> listed.getD i SA = listed.getD i TA:=fun i hi=>by simp [Array.getD,hi]
  have hm:m < ops.size:=by omega
  have hin0:m ∈ Region.ready .any ops listed:=by
   rw [mem_ready]
   refine ⟨?_,ops[m],by simp [hm],fun e he hb=>?_⟩
   ·cases hq:listed.getD m SA with
    | false=>rfl
    | true=>exact absurd ((hl m hm).1 hq) (by omega)
   ·have hlt:=hd m ops[m] (EA _) (by simp [hm]) e.on (yA.2 ⟨e,List.mem_filter.2 ⟨by simpa using he,hb⟩,rfl⟩)
    rw [<- hgd _ (by omega)]
    exact (hl _ (by omega)).2 hlt
  refine ⟨fun hq=>absurd hin0 (by rw [hq];simp),fun i hin=>?_⟩
  obtain ⟨h0,o,ho,hall⟩:=mem_ready.1 hin
  have hi:=(Array.getElem?_eq_some_iff.1 ho).1
  have him:i = m:=by
   refine Decidable.byContradiction fun hne=>?_
   by_cases hlt:i < m
   ·have:=(hl i hi).2 hlt
    rw [h0] at this
    cases this
   ·have hd1:=hch i o (by omega) ho
    obtain ⟨e,he,hon⟩:=yA.1 hd1
    obtain ⟨he1,he2⟩:=List.mem_filter.1 he
    have hls1:=hall e (by simpa using he1) he2
    rw [hon,<- hgd _ (by omega)] at hls1
    have:=(hl _ (by omega)).1 hls1
    omega
  subst him
  rw [List.range_succ_eq_map,List.map_cons,wpOpsIn_cons] at h
  refine wpOpIn_mono (fun a w h=>?_) h
  refine nR k (i + 1) _ a w (by omega) (fun j o hj=>hd j o (by omega)) (fun j o hj=>hch j o (by omega)) (by simpa using hls) (fun j hj=>?_) ?_
  ·by_cases he:i = j
   ·subst he
    exact ⟨fun _=>by omega,fun _=>by simp [Array.getD,hls,hi]⟩
   ·rw [getD_set_ne SA he,hl j hj]
    omega
  ·simp only [uA] at h
   have:((fun x=>i + 1 + x):Nat -> Nat) = (fun x=>i + x) ∘ Nat.succ:=by funext x;simp;omega
   rw [this]
   exact h
def tailOk (ops:Array Oper) (m:Nat):Bool :=
 (List.range ops.size).all fun i=>match ops[i]? with
  | some o=>(i < m || (WE o).all (fun d=>Nat.blt d i)) && (Nat.ble i m || (WE o).contains (i - 1))
  | none=>SA
theorem region_pre {id m k:Nat} (hm:P.follows .mixedOrders = SA) (hsz:ops.size = m + k) (hc:kK P ops cos m) (hA:preOkA opn ops cos (RG ops.toList []) m = SA) (ht:tailOk ops m = SA) (hq:cos.all pM = SA) {G:Act -> Prop} (hG:∀ co ∈ cos,∀ a v,G a -> G (a.put co.dst v)) (hGa:G a) (r:Rel X st hd a w) (hr:rD P opn cos st st')
  (hK:∀ hd' a' w',Rel X st' hd' a' w' -> G a' -> wpOpsIn (Wd rd) n P ops Q ((List.range k).map (m + ·)) a' w'):(Code.region id ops SA).wpIn (Wd rd) n P Q a w:=by
 have hts:∀ i o,ops[i]? = PA o -> (m <= i -> ∀ d ∈ WE o,d < i) /\ (m < i -> i - 1 ∈ WE o):=fun i o ho=>by
  have:=List.all_eq_true.1 ht i (zA.2 (Array.getElem?_eq_some_iff.1 ho).1)
  rw [ho] at this
  simp only [JA,Bool.or_eq_true,decide_eq_true_eq,List.all_eq_true,List.contains_iff_mem] at this
  refine ⟨fun h d hd=>?_,fun h=>?_⟩
  ·rcases this.1 with h1 | h1
   ·omega
   ·simpa using h1 d hd
  ·rcases this.2 with h1 | h1
   ·have:i <= m:=by simpa using h1
    omega
   ·exact h1
 refine wpIn_region_any hm ?_
 refine anyIn_pre hsz hc hA (List.all_eq_true.1 hq) hG (fun hd' a' w' listed R hdf hls hl=>nR k m listed a' w' hsz (fun i o hi ho=>(hts i o ho).1 hi) (fun i o hi ho=>(hts i o ho).2 hi) hls hl (hK hd' a' w' R hdf))
  ops.size (List.range m) _ st hd a _ (by simpa using hsz) List.pairwise_lt_range (fun i hi=>zA.1 hi) (by simp) (fun i hi=>?_) (fun j hj hjn=>absurd (zA.2 hj) hjn) (r.drawn _) hGa (by rw [yF cos _ hc.1];exact hr)
 have:(Array.replicate ops.size TA).getD i SA = TA:=by simp [Array.getD,hi]
 rw [this]
 simp [zA]
def X0 [Glb] (w:World) (M:Nat -> Prop) (hM:(∀ g,M g -> g < w.heap.size) /\ GB M w.heap.size w):Ctx:=⟨w.heap.size,w,M,hM.1,EA _,[],bE,fun _ _=>False,fun k o h=>h.elim,QA,fun l h=>(by cases h),0,hM.2⟩
theorem rel_closed {M:Nat -> Prop} (hM:(∀ g,M g -> g < w.heap.size) /\ GB M w.heap.size w) (hd0:a.defers = []) (hp:PW (AVR w M [] bE) t a.tmps.toList):Rel (X0 w M hM) ⟨t,[]⟩ bE a w:=by
 have hbad:∀ g,iB M [] bE g -> M g:=fun g hg=>by
  rcases hg with hm | ⟨b,k,hk,_⟩
  ·exact hm
  ·simp at hk
 have T0:Tr w M [] bE w (iB M [] bE) [] bE:=⟨fun _ _ _=>rfl,fun g hg _ hbg=>hg (hbad g hbg),EA _,fun b k hk=>by simp at hk⟩
 exact ⟨Below.refl _ _,hp.mono (fun c v hc=>hc.tr T0),⟨fun b k hk=>by simp at hk,fun b k hk=>by simp at hk,fun b b' k k' hk=>by simp at hk⟩,Tr.refl _ _ _ _,(fun k o h=>h.elim),fN _,⟨[],hd0,List.nodup_nil,(fun D hD=>by cases hD)⟩⟩
theorem Rel.grown_none {M:Nat -> Prop} {hM:(∀ g,M g -> g < w.heap.size) /\ GB M w.heap.size w} (r:Rel (X0 w M hM) st hd a w'):w.grownBy w' QA:=⟨r.below.os,r.below.tape,r.below.output,r.below.size,fun k hk _=>r.below.block k hk⟩
theorem PW.inv {α β:Type} {R:α -> β -> Prop} {c:α} {cs:List α} {vs:List β} (h:PW R (c :: cs) vs):∃ v vs',vs = v :: vs' /\ R c v /\ PW R cs vs':=by
 cases vs with
 | nil=>exact absurd h.1 (by simp)
 | cons v vs'=>exact ⟨v,vs',rfl,h.2 0 c v rfl rfl,by have:=h.1;simpa using this,fun i c v h1 h2=>h.2 (i + 1) c v (by simpa using h1) (by simpa using h2)⟩
theorem pre_of_mapM {m:Nat} (hm:m <= ops.size) (h:(ops.toList.take m).mapM (SK P ops) = PA cos):kK P ops cos m:=by
 obtain ⟨h1,h2⟩:=lI h
 refine ⟨by rw [h1,List.length_take,Array.length_toList];omega,fun i o co hi ho hco=>YQ (h2 i o co ?_ hco)⟩
 rw [List.getElem?_take,if_pos hi]
 simpa using ho
theorem region_pre' {id m k:Nat} {st1:St} (hm:P.follows .mixedOrders = SA) (hsz:ops.size = m + k) (hc:(ops.toList.take m).mapM (SK P ops) = PA cos) (hA:preOkA opn ops cos (RG ops.toList []) m = SA) (ht:tailOk ops m = SA) (hq:cos.all pM = SA) {G:Act -> Prop} (hG:∀ co ∈ cos,∀ a v,G a -> G (a.put co.dst v)) (hGa:G a) (r:Rel X st hd a w)
  (hr:dC P opn cos st fun s=>s = st1) (hK:∀ hd' a' w',Rel X st1 hd' a' w' -> G a' -> wpOpsIn (Wd rd) n P ops Q ((List.range k).map (m + ·)) a' w'):(Code.region id ops SA).wpIn (Wd rd) n P Q a w:=by
 obtain ⟨s,hrun,rfl⟩:=sG hr
 exact region_pre hm hsz (pre_of_mapM (by omega) hc) hA ht hq hG hGa r hrun hK
theorem WL {F:Fence} {i:Nat} {o:Oper} {K:Act -> World -> Prop} (ho:ops[i]? = PA o) (hg:o.guard = QA) (h:Oper.wpIn F n P o a w K Q):wpOpIn F n P ops Q i K a w:=by
 unfold wpOpIn
 rw [ho]
 simp only
 rw [if_pos (by unfold Region.wanted;rw [hg])]
 exact h
theorem awp_foldb {α β:Type} {g:Operand} {ps:List Tmp} {d:Tmp} {ty:TypeId} {m:Nat} {s:Tmp} {body:CC} {gf:FuncId} {caps:List Cell} {encs:α -> List AV} {L:List α} {Sp:List α -> Prop} {N n0:Nat} {Q:Exit -> St -> Prop}
  (hit:oT P gf caps encs ps.length (fun xs=>xs = L) Sp N) (hg:st.ev g = .one (.fn gf caps)) (hcaps:∀ c ∈ caps,wE c = SA) (hdt:d < st.t.length) (cells:α -> List CV) (hcl:∀ x,(VG ps (encs x) st.t).getD s .junk = .agg ((cells x).map .c)) (hm:∀ x,(cells x).length = m)
  (H:β -> List Blk) (f:β -> α -> β) (I:Nat -> β -> Prop) (b0:β) (hH0:st.h = H b0) (hI0:I 0 b0) (hty:∀ b,∀ k ∈ H b,k.ty ≠ ty)
  (hround:∀ i b x,i < N -> I i b -> uD P opn st.h.length body (EH st.h.length (fun h'=>h' = H (f b x) /\ I (i + 1) (f b x)) (fun _ _=>False)) ⟨(VG ps (encs x) st.t).set d (.one (.iptr (cells x))),H b⟩)
  (hdone:I L.length (L.foldl f b0) -> Q .normal ⟨st.t,H (L.foldl f b0)⟩):uD P opn n0 (.rfb g ps d ty m s body) Q st:=by
 refine awp_rfb hg hcaps hit (fun pre h=>h = H (pre.foldl f b0) /\ I pre.length (pre.foldl f b0)) ⟨hH0,hI0⟩ (fun _ _ _=>False) hdt cells hcl hm ?_ ?_ ?_ (fun _ _ _ _ h=>h.elim)
 ·rintro pre h ⟨rfl,_⟩
  exact hty _
 ·rintro pre x h hlen ⟨rfl,hi⟩
  have:=hround pre.length _ x hlen hi
  simpa only [List.foldl_append,List.foldl_cons,List.foldl_nil,sA,oA,pA,Nat.zero_add] using this
 ·rintro xs h rfl ⟨rfl,hi⟩
  exact hdone hi
theorem zcV {t:List AV} {h:List Blk} {dst:Option Tmp} {f:FuncId} {fo:Operand} {args:List Operand} {as cas:List AV} {av:AV} {os:List CO} {K:St -> Prop} (hp:YA P f cas (.ret av)) (ha:sC ⟨t,h⟩ fo args = PA (f,as)) (hcl:as.mapM (VB h 3) = PA cas)
  (hu:(as.map (kC h 3)).flatten = []) (hk:dC P opn os ⟨VC t dst av,h⟩ K):qD P opn ⟨dst,QA,.callf fo args⟩ os ⟨t,h⟩ K:=by
 show dC P opn (⟨dst,QA,.callf fo args⟩ :: os) ⟨t,h⟩ K
 rw [BC]
 have e1:CD h [] (.ret av) = (av,h):=by simp only [CD,AJ];split <;> rfl
 exact ⟨av,h,⟨f,as,ha,.inl ⟨cas,.ret av,hcl,hp,by rw [hu];exact e1.symm⟩⟩,hk⟩
end Go.Am
namespace Go.Am
open Go.RowKit Go.Off
variable {GL:Glb}
variable {P:Program} {opn:List FuncId} {w:World} {h:List Blk} {hd:Nat -> Value} {X:Ctx} {st:St} {a:Act} {n0:Nat}
theorem PW.flat {α β:Type} {R:α -> β -> Prop}:∀ {l:List (List α)} {l':List (List β)},PW (PW R) l l' -> PW R l.flatten l'.flatten
 | [],[],_=>⟨rfl,fun i a b h=>by simp at h⟩
 | [],_ :: _,h=>by have:=h.1;simp at this
 | _ :: _,[],h=>by have:=h.1;simp at this
 | x :: l,y :: l',h=>by
  have h0:PW R x y:=h.2 0 x y rfl rfl
  have h1:PW (PW R) l l':=⟨by have:=h.1;simpa using this,fun i a b ha hb=>h.2 (i + 1) a b (by simpa using ha) (by simpa using hb)⟩
  have h2:=PW.flat h1
  refine ⟨by rw [List.flatten_cons,List.flatten_cons,sA,sA,h0.1,h2.1],fun i a b ha hb=>?_⟩
  rw [List.flatten_cons,List.getElem?_append] at ha hb
  rw [<- h0.1] at hb
  split at ha
  ·rename_i hlt;rw [if_pos hlt] at hb;exact h0.2 i a b ha hb
  ·rename_i hlt;rw [if_neg hlt] at hb;exact h2.2 _ a b ha hb
def clo (h:List Blk) (ids:List Nat) (c c':Cell):Prop:=c' = c \/ ∃ y,c' = .c y /\ XB h 2 c = PA y /\ ∀ x ∈ EC h 2 c,x ∈ ids
theorem TB.cells {b:Nat} {k:Blk} {els':List (List Cell)} (ids:List Nat) (hb:st.h[b]? = PA k) (hnb:ids.contains b = TA) (hels:PW (PW (clo st.h ids)) k.els els') :
  TB n0 st ⟨st.t,(Am.freeze ids st.h).set b { k with els:=els' }⟩:=by
 intro X hd a w hX r
 obtain ⟨hd1,r1⟩:=TB.freeze ids st X hd a w hX r
 clear r1 hd1
 have hf:(Am.freeze ids st.h)[b]? = PA k:=by rw [BD,hb,Option.map_some,hnb];rfl
 have hlt:b < (Am.freeze ids st.h).length:=(dA.1 hf).1
 have hget:∀ (i:Nat) (q:Blk),((Am.freeze ids st.h).set b { k with els:=els' })[i]? = PA q -> ∃ q0,(Am.freeze ids st.h)[i]? = PA q0 /\ q.ver = q0.ver /\ q.ty = q0.ty /\ q.e = q0.e /\ q.live = q0.live /\ q.nn = q0.nn /\ (i ≠ b -> q = q0) /\ (i = b -> q = { k with els:=els' } /\ q0 = k):=by
  intro i q hq
  by_cases hib:i = b
  ·subst hib
   rw [List.getElem?_set_self hlt] at hq
   simp only [BA] at hq
   subst hq
   exact ⟨k,hf,rfl,rfl,rfl,rfl,rfl,fun h=>(h rfl).elim,fun _=>⟨rfl,rfl⟩⟩
  ·rw [List.getElem?_set_ne (fun e=>hib e.symm)] at hq
   exact ⟨q,hq,rfl,rfl,rfl,rfl,rfl,fun _=>rfl,fun h=>(hib h).elim⟩
 have hbad:∀ g,iB X.M0 ((Am.freeze ids st.h).set b { k with els:=els' }) hd g -> iB X.M0 (Am.freeze ids st.h) hd g:=fun g hg=>by
  rcases hg with hm | ⟨i,q,hq,hl,hg⟩
  ·exact .inl hm
  ·obtain ⟨q0,h0,_,_,_,h4,_⟩:=hget i q hq
   exact .inr ⟨i,q0,h0,by rw [<- h4];exact hl,hg⟩
 have T:Tr w (iB X.M0 (Am.freeze ids st.h) hd) (Am.freeze ids st.h) hd w (iB X.M0 ((Am.freeze ids st.h).set b { k with els:=els' }) hd) ((Am.freeze ids st.h).set b { k with els:=els' }) hd :=
  ⟨fun _ _ _=>rfl,fun g hg _ hb=>hg (hbad g hb),EA _,fun i q hq=>by
   by_cases hib:i = b
   ·subst hib
    rw [hf] at hq
    cases hq
    exact ⟨{ k with els:=els' },List.getElem?_set_self hlt,.inl ⟨rfl,rfl,rfl⟩⟩
   ·exact ⟨q,by rw [List.getElem?_set_ne (fun e=>hib e.symm)];exact hq,.inl ⟨rfl,rfl,rfl⟩⟩⟩
 have TT:=(Tr.freeze (M0:=X.M0) (w:=w) (hd:=hd) (h:=st.h) ids).trans T
 have H1:=r.heap.freeze ids
 refine ⟨hd,r.below,r.slots.mono (fun c v hc=>hc.tr TT),⟨fun i q hq=>?_,fun i q hq=>?_,fun i j q q' hq hq' hl hne g hg=>?_⟩,r.tr.trans TT,r.keeps,r.big,r.marks⟩
 ·obtain ⟨q0,h0,h1,h2,h3,h4,h5,h6,h7⟩:=hget i q hq
  by_cases hib:i = b
  ·obtain ⟨hq1,hq2⟩:=h7 hib
   subst hib hq1
   obtain ⟨hr,xs,ho,hv⟩:=r.heap.blk i k hb
   refine ⟨fun j rw' hj=>?_,xs,?_,fun j c v hc hv'=>?_⟩
   ·simp only at hj
    have hjl:j < k.els.length:=by rw [hels.1];exact (dA.1 hj).1
    have:=hels.2 j _ rw' (aA hjl) hj
    rw [<- this.1]
    exact hr j _ (aA hjl)
   ·simp only
    rw [<- hels.1]
    exact ho
   ·simp only at hc
    have hfl:=PW.flat hels
    have hjl:j < k.els.flatten.length:=by rw [hfl.1];exact (dA.1 hc).1
    have hx:=hv j _ v (aA hjl) hv'
    rcases hfl.2 j _ c (aA hjl) hc with e | ⟨y,e,hy,hu⟩
    ·rw [e];exact hx.tr TT
    ·rw [e]
     have:=uG r.heap X.hM0 ids 2 _ y v hy hu hx
     exact .c y v (this.tr (fun _ _ _=>rfl) (fun g hg _ hbg=>hg (hbad g hbg)) (EA _))
  ·rw [h6 hib]
   obtain ⟨hr,xs,ho,hv⟩:=H1.blk i q0 h0
   exact ⟨hr,xs,ho,fun j c v hc hv'=>(hv j c v hc hv').tr T⟩
 ·obtain ⟨q0,h0,h1,h2,h3,h4,h5,h6,h7⟩:=hget i q hq
  rw [h5];exact H1.nn i q0 h0
 ·obtain ⟨q0,h0,_,_,_,h4,_⟩:=hget i q hq
  obtain ⟨q0',h0',_⟩:=hget j q' hq'
  exact H1.apart i j q0 q0' h0 h0' (by rw [<- h4];exact hl) hne g hg
theorem clo_refl {h:List Blk} {ids:List Nat} (l:List Cell):PW (clo h ids) l l:=⟨rfl,fun i a b h1 h2=>.inl (by rw [h1] at h2;cases h2;rfl)⟩
theorem cT {h:List Blk} {ids:List Nat} (l:List (List Cell)):PW (PW (clo h ids)) l l:=⟨rfl,fun i a b h1 h2=>by rw [h1] at h2;cases h2;exact clo_refl a⟩
theorem clo_set {h:List Blk} {ids:List Nat} {l:List (List Cell)} {i:Nat} {r r':List Cell} (hr:PW (clo h ids) r r'):PW (PW (clo h ids)) (l.set i r) (l.set i r'):=(cT l).set i hr
theorem clo_snoc {h:List Blk} {ids:List Nat} {l:List (List Cell)} {r r':List Cell} (hr:PW (clo h ids) r r'):PW (PW (clo h ids)) (l ++ [r]) (l ++ [r']):=(cT l).append (.cons hr .nil)
theorem clo_own {α:Type} {h:List Blk} {ids:List Nat} {c ver ty e:Nat} {live:Bool} {g:α -> List CV} {r:List α} (hk:h[c]? = PA ⟨ver,ty,e,wB g r,live,SA⟩) (h0:0 < e) (hi:c ∈ ids) :
  PW (clo h ids) [.own c ver] [.c (jB e g (PA r))]:=by
 refine .cons (.inr ⟨_,rfl,?_,?_⟩) .nil
 ·simp only [XB,hk,h0,and_self,if_true,NK,Option.map_some,jB]
 ·simp only [EC,hk,if_true]
  intro x hx
  have:(List.map (fun r:List Cell=>(List.map (EC h 1) r).flatten) (wB g r)).flatten = []:=by rw [jH];exact cK _ _ _
  rw [this] at hx
  simp only [List.mem_cons,List.not_mem_nil,or_false] at hx
  rw [hx];exact hi
theorem TB.cellSet {α β:Type} {t:List AV} {h:List Blk} {b c ver ver' ty ty' e e' i:Nat} {f:α -> List CV} {g:β -> List CV} {l:List α} {r:List β} {x:α} {nn live live':Bool}
  (hb:h[b]? = PA ⟨ver,ty,e,(wB f l).set i [.own c ver'],live,nn⟩) (hc:h[c]? = PA ⟨ver',ty',e',wB g r,live',SA⟩) (h0:0 < e') (hx:f x = [jB e' g (PA r)]) (hne:([c]:List Nat).contains b = TA) :
  TB n0 ⟨t,h⟩ ⟨t,(Am.freeze [c] h).set b ⟨ver,ty,e,wB f (l.set i x),live,nn⟩⟩:=by
 have:=TB.cells (GL:=GL) (n0:=n0) (st:=⟨t,h⟩) [c] hb hne (clo_set (clo_own hc h0 (by simp)))
 rwa [show [Cell.c (jB e' g (PA r))] = (f x).map .c by rw [hx];rfl,SE] at this
theorem TB.cellSnoc {α β:Type} {t:List AV} {h:List Blk} {b c ver ver' ty ty' e e':Nat} {f:α -> List CV} {g:β -> List CV} {l:List α} {r:List β} {x:α} {nn live live':Bool}
  (hb:h[b]? = PA ⟨ver,ty,e,wB f l ++ [[.own c ver']],live,nn⟩) (hc:h[c]? = PA ⟨ver',ty',e',wB g r,live',SA⟩) (h0:0 < e') (hx:f x = [jB e' g (PA r)]) (hne:([c]:List Nat).contains b = TA) :
  TB n0 ⟨t,h⟩ ⟨t,(Am.freeze [c] h).set b ⟨ver,ty,e,wB f (l ++ [x]),live,nn⟩⟩:=by
 have:=TB.cells (GL:=GL) (n0:=n0) (st:=⟨t,h⟩) [c] hb hne (clo_snoc (clo_own hc h0 (by simp)))
 rwa [show [[Cell.c (jB e' g (PA r))]] = wB f [x] by simp [wB,hx],XC] at this
end Go.Am
namespace Go.Am
open Go.RowKit Go.Off
variable {GL:Glb}
variable {P:Program}
def aC {α:Type} (l:List α):Option (List α):=if l.isEmpty then QA else PA l
theorem WB {α:Type} (l:List α):UA (aC l) = l:=by unfold aC;cases l <;> rfl
theorem qS {α:Type} (x:α) (l:List α):aC (x :: l) = PA (x :: l):=rfl
theorem YA.fresh_rowO {α:Type} {f:FuncId} {args:List AV} {ty:TypeId} {e:Nat} {g:α -> List CV} {l:List α} (h:YA P f args (.fresh ty e (l.map g) (!l.isEmpty))):YA P f args (.ret (.one (.c (jB e g (aC l))))):=by
 cases l with
 | nil =>
  refine ⟨h.1,fun w M vals hM hp=>(h.2 w M vals hM hp).mono ?_⟩
  rintro en w' ⟨v,rfl,hb,hr,hnn,xs,ho,hc⟩
  have hv:v = .slice QA 0 0:=hnn.1 rfl
  subst hv
  exact ⟨_,rfl,hb,.one _ _ (.c _ _ (.val _ rfl))⟩
 | cons a l=>exact YA.fresh_ret h
theorem YA.to {f:FuncId} {args:List AV} {r s:Ret} (h:YA P f args r) (e:r = s):YA P f args s:=e ▸ h
theorem close_res2 {α:Type} {f:α -> List CV} {h:List Blk} {b ver ty e:Nat} {live nn:Bool} {l:List α} {x:CV} (hk:h[b]? = PA ⟨ver,ty,e,wB f l,live,nn⟩) (h0:0 < e) (hn:nn = !l.isEmpty) :
  fG h (.tup [.one (.own b ver),.one (.c x)]) = PA (.tup [.one (.c (jB e f (aC l))),.one (.c x)]):=by
 have h1:=OM (n:=2) hk h0
 have h2:(if nn = SA then PA l else QA) = aC l:=by subst hn;unfold aC;cases l <;> rfl
 rw [h2] at h1
 unfold fG
 simp [h1,VB,yE,jC,XB] at *
 simp [h1]
theorem BB {α:Type} {f:α -> List CV} {h:List Blk} {b ver ty e:Nat} {live nn:Bool} {l:List α} (hk:h[b]? = PA ⟨ver,ty,e,wB f l,live,nn⟩) (h0:0 < e) (hn:nn = !l.isEmpty) :
  VB h 3 (.one (.own b ver)) = PA (.one (.c (jB e f (aC l)))):=by
 have h1:=OM (n:=2) hk h0
 have h2:(if nn = SA then PA l else QA) = aC l:=by subst hn;unfold aC;cases l <;> rfl
 rw [h2] at h1
 exact h1
end Go.Am
namespace Go.Am
open Go.RowKit Go.Off
variable {GL:Glb}
variable {P:Program} {opn:List FuncId}
theorem call_ret_w1 {t:List AV} {v:Nat} {ty:TypeId} {e:Nat} {els:List (List Cell)} {nn:Bool} {K:St -> Prop} {dst:Option Tmp} {f:FuncId} {args:List Operand} {as cas:List AV} {av:AV} {os:List CO} {ids:List Nat} (hp:YA P f cas (.ret av)) (ha:sC ⟨t,[⟨v,ty,e,els,SA,nn⟩]⟩ (.func f) args = PA (f,as))
  (hcl:as.mapM (VB [⟨v,ty,e,els,SA,nn⟩] 3) = PA cas) (hu:(as.map (kC [⟨v,ty,e,els,SA,nn⟩] 3)).flatten = ids) (hh:freeze ids [⟨v,ty,e,els,SA,nn⟩] = [⟨v,ty,e,els,TA,nn⟩]) (hk:∀ b:Bool,dC P opn os ⟨VC t dst av,[⟨v,ty,e,els,b,nn⟩]⟩ K) :
  qD P opn ⟨dst,QA,.callf (.func f) args⟩ os ⟨t,[⟨v,ty,e,els,SA,nn⟩]⟩ K:=by
 cases hf:LE av with
 | true=>exact aD hp ha hcl hf (hk SA)
 | false=>exact cJ hp ha hcl hf hu hh (hk TA)
variable {w:World} {h:List Blk} {hd:Nat -> Value} {X:Ctx} {st:St} {a:Act} {n0:Nat}
theorem TB.phantom (st:St) (ty:TypeId) (e:Nat):TB n0 st ⟨st.t,st.h ++ [⟨0,ty,e,[],SA,TA⟩]⟩:=fun X hd a w hX r=>by
 have hg:=PC w QA
 obtain ⟨H',T⟩:=r.heap.new hg (v:=.slice QA 0 0) (k:=⟨0,ty,e,[],SA,TA⟩) (xs:=[]) (fun i r h=>by simp at h) ⟨by simp,.inl ⟨rfl,rfl⟩⟩ (fun i c u h=>by simp at h) (fun g h=>by simp [Value.ownBlock] at h) r.M0_lt (by simp)
 exact ⟨_,r.below,r.slots.mono (fun c v hc=>hc.tr T),H',r.tr.trans T,r.keeps,r.big,r.marks⟩
def opc (h:List Blk) (c c':Cell):Prop:=c' = c \/ (c = .c (.val (.slice QA 0 0)) /\ ∃ m q,c' = .own m q.ver /\ h[m]? = PA q /\ q.nn = TA)
theorem TB.cellsOpen {b:Nat} {k:Blk} {els':List (List Cell)} (hb:st.h[b]? = PA k) (hels:PW (PW (opc st.h)) k.els els') :
  TB n0 st ⟨st.t,st.h.set b { k with els:=els' }⟩:=by
 intro X hd a w hX r
 have hlt:b < st.h.length:=(dA.1 hb).1
 have hget:∀ (i:Nat) (q:Blk),(st.h.set b { k with els:=els' })[i]? = PA q -> ∃ q0,st.h[i]? = PA q0 /\ q.ver = q0.ver /\ q.ty = q0.ty /\ q.e = q0.e /\ q.live = q0.live /\ q.nn = q0.nn /\ (i ≠ b -> q = q0) /\ (i = b -> q = { k with els:=els' } /\ q0 = k):=by
  intro i q hq
  by_cases hib:i = b
  ·subst hib
   rw [List.getElem?_set_self hlt] at hq
   simp only [BA] at hq
   subst hq
   exact ⟨k,hb,rfl,rfl,rfl,rfl,rfl,fun h=>(h rfl).elim,fun _=>⟨rfl,rfl⟩⟩
  ·rw [List.getElem?_set_ne (fun e=>hib e.symm)] at hq
   exact ⟨q,hq,rfl,rfl,rfl,rfl,rfl,fun _=>rfl,fun h=>(hib h).elim⟩
 have hbad:∀ g,iB X.M0 (st.h.set b { k with els:=els' }) hd g -> iB X.M0 st.h hd g:=fun g hg=>by
  rcases hg with hm | ⟨i,q,hq,hl,hg⟩
  ·exact .inl hm
  ·obtain ⟨q0,h0,_,_,_,h4,_⟩:=hget i q hq
   exact .inr ⟨i,q0,h0,by rw [<- h4];exact hl,hg⟩
 have T:Tr w (iB X.M0 st.h hd) st.h hd w (iB X.M0 (st.h.set b { k with els:=els' }) hd) (st.h.set b { k with els:=els' }) hd :=
  ⟨fun _ _ _=>rfl,fun g hg _ hb=>hg (hbad g hb),EA _,fun i q hq=>by
   by_cases hib:i = b
   ·subst hib
    rw [hb] at hq
    cases hq
    exact ⟨{ k with els:=els' },List.getElem?_set_self hlt,.inl ⟨rfl,rfl,rfl⟩⟩
   ·exact ⟨q,by rw [List.getElem?_set_ne (fun e=>hib e.symm)];exact hq,.inl ⟨rfl,rfl,rfl⟩⟩⟩
 have H1:=r.heap
 refine ⟨hd,r.below,r.slots.mono (fun c v hc=>hc.tr T),⟨fun i q hq=>?_,fun i q hq=>?_,fun i j q q' hq hq' hl hne g hg=>?_⟩,r.tr.trans T,r.keeps,r.big,r.marks⟩
 ·obtain ⟨q0,h0,h1,h2,h3,h4,h5,h6,h7⟩:=hget i q hq
  by_cases hib:i = b
  ·obtain ⟨hq1,hq2⟩:=h7 hib
   subst hib hq1
   obtain ⟨hr,xs,ho,hv⟩:=r.heap.blk i k hb
   refine ⟨fun j rw' hj=>?_,xs,?_,fun j c v hc hv'=>?_⟩
   ·simp only at hj
    have hjl:j < k.els.length:=by rw [hels.1];exact (dA.1 hj).1
    have:=hels.2 j _ rw' (aA hjl) hj
    rw [<- this.1]
    exact hr j _ (aA hjl)
   ·simp only
    rw [<- hels.1]
    exact ho
   ·simp only at hc
    have hfl:=PW.flat hels
    have hjl:j < k.els.flatten.length:=by rw [hfl.1];exact (dA.1 hc).1
    have hx:=hv j _ v (aA hjl) hv'
    rcases hfl.2 j _ c (aA hjl) hc with e | ⟨e0,m,q,e,hm,hnn⟩
    ·rw [e];exact hx.tr T
    ·rw [e]
     rw [e0] at hx
     have hvn:v = .slice QA 0 0:=by
      cases hx with
      | c _ _ hx=>cases hx;rfl
     have hmn:hd m = .slice QA 0 0:=(r.heap.nn m q hm).1 hnn
     rw [hvn,<- hmn]
     exact (VR.own (w:=w) (bad:=iB X.M0 st.h hd) (hd:=hd) m q hm (by rw [hmn];rfl)).tr T
  ·rw [h6 hib]
   obtain ⟨hr,xs,ho,hv⟩:=H1.blk i q0 h0
   exact ⟨hr,xs,ho,fun j c v hc hv'=>(hv j c v hc hv').tr T⟩
 ·obtain ⟨q0,h0,h1,h2,h3,h4,h5,h6,h7⟩:=hget i q hq
  rw [h5];exact H1.nn i q0 h0
 ·obtain ⟨q0,h0,_,_,_,h4,_⟩:=hget i q hq
  obtain ⟨q0',h0',_⟩:=hget j q' hq'
  exact H1.apart i j q0 q0' h0 h0' (by rw [<- h4];exact hl) hne g hg
theorem JG {α:Type} {h:List Blk} {ids:List Nat} {c ver ty e:Nat} {live nn:Bool} {g:α -> List CV} {r:List α} (hk:h[c]? = PA ⟨ver,ty,e,wB g r,live,nn⟩) (h0:0 < e) (hn:nn = !r.isEmpty) (hi:c ∈ ids) :
  PW (clo h ids) [.own c ver] [.c (jB e g (aC r))]:=by
 cases r with
 | cons x r=>exact clo_own (by rw [hk,hn];rfl) h0 hi
 | nil =>
  have hn':nn = TA:=by rw [hn];rfl
  subst hn'
  refine .cons (.inr ⟨_,rfl,?_,?_⟩) .nil
  ·simp [XB,hk,h0,jB,aC]
  ·intro x hx
   simp [EC,hk] at hx
   rw [hx];exact hi
theorem TB.cellSnocO {α β:Type} {t:List AV} {h:List Blk} {b c ver ver' ty ty' e e':Nat} {f:α -> List CV} {g:β -> List CV} {l:List α} {r:List β} {x:α} {nn nn' live live':Bool}
  (hb:h[b]? = PA ⟨ver,ty,e,wB f l ++ [[.own c ver']],live,nn⟩) (hc:h[c]? = PA ⟨ver',ty',e',wB g r,live',nn'⟩) (h0:0 < e') (hn:nn' = !r.isEmpty) (hx:f x = [jB e' g (aC r)]) (hne:([c]:List Nat).contains b = TA) :
  TB n0 ⟨t,h⟩ ⟨t,(Am.freeze [c] h).set b ⟨ver,ty,e,wB f (l ++ [x]),live,nn⟩⟩:=by
 have:=TB.cells (GL:=GL) (n0:=n0) (st:=⟨t,h⟩) [c] hb hne (clo_snoc (JG hc h0 hn (by simp)))
 rwa [show [[Cell.c (jB e' g (aC r))]] = wB f [x] by simp [wB,hx],XC] at this
theorem EN {α:Type} {t:List AV} {h h':List Blk} {K:St -> Prop} {dst:Option Tmp} {f:FuncId} {fo:Operand} {args:List Operand} {as cas:List AV} {ty:TypeId} {e:Nat} {g:α -> List CV} {l:List α} {nn:Bool} {os:List CO} {ids:List Nat} (hp:YA P f cas (.fresh ty e (l.map g) nn)) (ha:sC ⟨t,h⟩ fo args = PA (f,as)) (hcl:as.mapM (VB h 3) = PA cas)
  (hu:(as.map (kC h 3)).flatten = ids) (hh:freeze ids h = h') (hk:dC P opn os ⟨VC t dst (.one (.own h.length 0)),h' ++ [⟨0,ty,e,wB g l,SA,nn⟩]⟩ K):qD P opn ⟨dst,QA,.callf fo args⟩ os ⟨t,h⟩ K:=by
 show dC P opn (⟨dst,QA,.callf fo args⟩ :: os) ⟨t,h⟩ K
 rw [BC]
 refine ⟨.one (.own h.length 0),h' ++ [⟨0,ty,e,wB g l,SA,nn⟩],⟨f,as,ha,.inl ⟨cas,_,hcl,hp,?_⟩⟩,hk⟩
 rw [hu,<- hh,jH]
 rfl
end Go.Am
namespace Go.Am
open Go.RowKit Go.Off Go.ChangeShapes Go.WideShapes
variable {GL:Glb}
def sD (P:Program) (t:TypeId) (R:List CV -> Prop):Prop :=
 ∀ (H:Type) (enc:TypeId × Value -> H) (w:World) (fuel:Nat) (cs:List Value) (x:DataW H × List MemPlace),
  DataW.trod enc P w 0 (fun _=>SA) SA fuel t cs = PA x -> ∃ l,R l /\ PW (CR w (fun _=>False)) l cs
variable {P:Program} {t e:TypeId}
theorem vS {k:IntKind} (ht:P.underlying t = PA (.int k)):sD P t (fun l=>∃ n:Int,(Lit.int k n).wf = SA /\ l = [.val (.int k n)]):=fun H enc w fuel cs x h=>by
 obtain ⟨n,rfl,_,hw⟩:=DataW.trod_int ht h
 exact ⟨_,⟨n,hw,rfl⟩,.cons (.val _ rfl) .nil⟩
theorem reads_bool (ht:P.underlying t = PA .bool):sD P t (fun l=>∃ b:Bool,l = [.val (.bool b)]):=fun H enc w fuel cs x h=>by
 obtain ⟨n,rfl,_⟩:=DataW.trod_bool ht h
 exact ⟨_,⟨n,rfl⟩,.cons (.val _ rfl) .nil⟩
theorem IT (ht:P.underlying t = PA .string):sD P t (fun l=>∃ s:List UInt8,s.length <= maxLen /\ l = [.str s]):=fun H enc w fuel cs x h=>by
 obtain ⟨s,rfl,_,hs⟩:=DataW.trod_string ht h
 refine ⟨_,⟨s.data.toList,by simpa using hs,rfl⟩,.cons ?_ .nil⟩
 have:(Value.string s) = .string ⟨s.data.toList.toArray⟩:=by cases s;simp
 rw [this]
 exact .str _
theorem list_of {α:Type} {Q:Nat -> α -> Prop}:∀ {n:Nat},(∀ i,i < n -> ∃ a,Q i a) -> ∃ l:List α,l.length = n /\ ∀ (i:Nat) (a:α),l[i]? = PA a -> Q i a
 | 0,_=>⟨[],rfl,fun i a h=>by simp at h⟩
 | n + 1,h=>by
  obtain ⟨l,hl,hq⟩:=list_of (n:=n) (fun i hi=>h i (by omega))
  obtain ⟨a,ha⟩:=h n (by omega)
  refine ⟨l ++ [a],by simp [hl],fun i b hb=>?_⟩
  by_cases hi:i < l.length
  ·rw [List.getElem?_append_left hi] at hb;exact hq i b hb
  ·rw [List.getElem?_append_right (by omega)] at hb
   have:i - l.length = 0:=by
    have:=(dA.1 hb).1
    simp at this;omega
   rw [this] at hb
   simp at hb
   subst hb
   have:i = n:=by omega
   rw [this];exact ha
theorem cells_at {w:World} {a:Addr} {n:Nat} {cs:List Value} (h:w.cells? 0 a n = PA cs):cs.length = n /\ ∀ (j:Nat) (v:Value),cs[j]? = PA v -> w.cell? (a.add j) = PA v:=by
 unfold World.cells? at h
 rw [if_pos (fN _)] at h
 have key:∀ (l:List Nat) (cs:List Value),l.mapM (fun i=>w.cell? (a.add i)) = PA cs -> cs.length = l.length /\ ∀ (j:Nat) (v:Value) (i:Nat),l[j]? = PA i -> cs[j]? = PA v -> w.cell? (a.add i) = PA v:=by
  intro l
  induction l with
  | nil=>intro cs h;simp at h;subst h;exact ⟨rfl,fun j v i hi=>by simp at hi⟩
  | cons b l ih =>
   intro cs h
   rw [List.mapM_cons] at h
   simp only [Option.bind_eq_bind,Option.pure_def] at h
   cases hb:w.cell? (a.add b) with
   | none=>simp [hb] at h
   | some v0 =>
    cases hr:l.mapM (fun i=>w.cell? (a.add i)) with
    | none=>simp [hb,hr] at h
    | some rs =>
     simp only [hb,hr,Option.bind_some,BA] at h
     subst h
     obtain ⟨h1,h2⟩:=ih rs hr
     refine ⟨by simp [h1],fun j v i hi hv=>?_⟩
     cases j with
     | zero=>simp at hi hv;subst hi;subst hv;exact hb
     | succ j=>exact h2 j v i (by simpa using hi) (by simpa using hv)
 obtain ⟨h1,h2⟩:=key _ _ h
 refine ⟨by simpa using h1,fun j v hv=>?_⟩
 have hj:j < n:=by
  have:=(dA.1 hv).1
  simp at h1;omega
 exact h2 j v j (by simp [hj]) hv
theorem MF {k:Nat} {α:Type} {f:α -> List CV} {p:α -> Prop} (ht:P.underlying t = PA (.slice e)) (hk:P.cellsOf e = k) (hk0:0 < k) (hf:∀ a,(f a).length = k)
  (he:sD P e (fun l=>∃ a,p a /\ l = f a)):sD P t (fun l=>∃ s:Option (List α),((∀ a ∈ UA s,p a) /\ (UA s).length <= maxLen) /\ l = [jB k f s]):=fun H enc w fuel cs x h=>by
 rcases Go.Deep.open_slice ht h with ⟨rfl,_⟩ | ⟨a,len,cap,m,n,D,Pl,rfl,_,hlc,hmx,hm,_,hel⟩
 ·exact ⟨_,⟨QA,by simp [UA],rfl⟩,.cons (.val _ rfl) .nil⟩
 ·simp only [if_true] at hm
  subst hm
  rw [hk] at hel
  by_cases hc0:m = 0
  ·subst hc0
   obtain rfl:len = 0:=by omega
   exact ⟨_,⟨PA [],by simp [UA],rfl⟩,.cons (.emp _ _) .nil⟩
  ·obtain ⟨g,off,spot⟩:=a
   obtain ⟨cs0,hcs0,_⟩:=hel 0 (by omega)
   obtain ⟨hl0,hc0'⟩:=cells_at hcs0
   have hcell0:=hc0' 0 (cs0[0]'(by omega)) (aA _)
   have hspot:spot = QA:=by simpa [Addr.add] using World.cell?_spot hcell0
   subst hspot
   have hlt:g < w.heap.size:=by
    unfold World.cell? at hcell0
    split at hcell0
    ·rename_i c _ _ hg
     have:=(Array.getElem?_eq_some_iff.1 hg).1
     simpa [Addr.add] using this
    ·cases hcell0
   have ch:∀ i,i < len -> ∃ a:α,p a /\ ∃ cs',w.cells? 0 ((⟨g,off,QA⟩:Addr).add (i * k)) k = PA cs' /\ PW (CR w (fun _=>False)) (f a) cs':=fun i hi=>by
    obtain ⟨cs',h1,h2⟩:=hel i (by omega)
    obtain ⟨l,⟨a,ha,rfl⟩,hpw⟩:=he H enc w n cs' _ h2
    exact ⟨a,ha,cs',h1,hpw⟩
   obtain ⟨l,hl,hq⟩:=list_of ch
   have hq':∀ i a,l[i]? = PA a -> ∀ j,j < k -> ∃ v,w.cell? ⟨g,off + (i * k + j),QA⟩ = PA v /\ ∀ c,(f a)[j]? = PA c -> CR w (fun _=>False) c v:=fun i a hi j hj=>by
    obtain ⟨_,cs',h1,h2⟩:=hq i a hi
    obtain ⟨h3,h4⟩:=cells_at h1
    have h5:=h4 j (cs'[j]'(by omega)) (aA _)
    refine ⟨cs'[j]'(by omega),?_,fun c hc=>h2.2 j c _ hc (aA _)⟩
    rw [TC,TC] at h5
    rw [show off + (i * k + j) = off + i * k + j by omega]
    exact h5
   refine ⟨_,⟨PA l,⟨fun a ha=>?_,by show l.length <= _;omega⟩,rfl⟩,.cons ?_ .nil⟩
   ·obtain ⟨i,hi,rfl⟩:=List.getElem_of_mem ha
    exact (hq i _ (aA hi)).1
   ·have:=CR.sl (w:=w) (bad:=fun _=>False) k (l.map f) g off m (fun i j=>(w.cell? ⟨g,off + (i * k + j),QA⟩).getD undef) (by rw [eA];omega) (fun h=>h) hlt
     (fun i r hi=>by
      rw [List.getElem?_map] at hi
      cases hli:l[i]? with
      | none=>simp [hli] at hi
      | some a=>simp [hli] at hi;subst hi;exact hf a)
     (fun i j hi hj=>by
      rw [eA] at hi
      obtain ⟨v,hv,_⟩:=hq' i _ (aA hi) j hj
      rw [hv];rfl)
     (fun i j r c hi hj=>by
      rw [List.getElem?_map] at hi
      cases hli:l[i]? with
      | none=>simp [hli] at hi
      | some a =>
       simp [hli] at hi
       subst hi
       have hjk:j < k:=by rw [<- hf a];exact (dA.1 hj).1
       obtain ⟨v,hv,hc⟩:=hq' i a hli j hjk
       rw [hv]
       exact hc c hj)
    rw [eA,hl] at this
    exact this
theorem UC {R S:List CV -> Prop} (h:sD P t R) (hh:∀ l,R l -> S l):sD P t S:=fun H enc w fuel cs x hx=>by
 obtain ⟨l,h1,h2⟩:=h H enc w fuel cs x hx
 exact ⟨l,hh l h1,h2⟩
theorem iL {f0 f1:Field} {R0 R1:List CV -> Prop} {c0 c1:Nat} (ht:P.underlying t = PA (.struct #[f0,f1])) (h0:f0.offset = 0) (hc0:P.cellsOf f0.type = c0) (h1:f1.offset = c0) (hc1:P.cellsOf f1.type = c1)
  (hc:P.cellsOf t = c0 + c1) (r0:sD P f0.type R0) (r1:sD P f1.type R1):sD P t (fun l=>∃ l0 l1,R0 l0 /\ R1 l1 /\ l = l0 ++ l1):=fun H enc w fuel cs x h=>by
 obtain ⟨y0,y1,n,_,hl,k0,k1⟩:=trod_struct2 ht h
 obtain ⟨l0,a0,p0⟩:=r0 H enc w n _ _ k0
 obtain ⟨l1,a1,p1⟩:=r1 H enc w n _ _ k1
 refine ⟨_,⟨l0,l1,a0,a1,rfl⟩,?_⟩
 have:=p0.append p1
 rw [h0,hc0,h1,hc1,List.drop_zero] at this
 have e1:(cs.drop c0).take c1 = cs.drop c0:=List.take_of_length_le (by rw [List.length_drop,hl,hc];omega)
 rw [e1,List.take_append_drop] at this
 exact this
theorem gL {f0 f1 f2:Field} {R0 R1 R2:List CV -> Prop} {c0 c1 c2:Nat} (ht:P.underlying t = PA (.struct #[f0,f1,f2])) (h0:f0.offset = 0) (hc0:P.cellsOf f0.type = c0) (h1:f1.offset = c0) (hc1:P.cellsOf f1.type = c1)
  (h2:f2.offset = c0 + c1) (hc2:P.cellsOf f2.type = c2)
  (hc:P.cellsOf t = c0 + c1 + c2) (r0:sD P f0.type R0) (r1:sD P f1.type R1) (r2:sD P f2.type R2):sD P t (fun l=>∃ l0 l1 l2,R0 l0 /\ R1 l1 /\ R2 l2 /\ l = l0 ++ (l1 ++ l2)):=fun H enc w fuel cs x h=>by
 obtain ⟨y0,y1,y2,n,_,hl,k0,k1,k2⟩:=Go.Deep.trod_struct3 ht h
 obtain ⟨l0,a0,p0⟩:=r0 H enc w n _ _ k0
 obtain ⟨l1,a1,p1⟩:=r1 H enc w n _ _ k1
 obtain ⟨l2,a2,p2⟩:=r2 H enc w n _ _ k2
 refine ⟨_,⟨l0,l1,l2,a0,a1,a2,rfl⟩,?_⟩
 have:=p0.append (p1.append p2)
 rw [h0,hc0,h1,hc1,h2,hc2,List.drop_zero] at this
 have e2:(cs.drop (c0 + c1)).take c2 = cs.drop (c0 + c1):=List.take_of_length_le (by rw [List.length_drop,hl,hc];omega)
 have e1:(cs.drop c0).take c1 ++ cs.drop (c0 + c1) = cs.drop c0:=by
  rw [<- List.drop_drop,List.take_append_drop]
 rw [e2,e1,List.take_append_drop] at this
 exact this
theorem avr_cell {R:List CV -> Prop} (hr:sD P t R) {H:Type} {enc:TypeId × Value -> H} {W:World} {v:Value} {d:DataW H} {ps:List MemPlace} (h:DataW.Trod enc P W 0 (fun _=>SA) SA t v d ps)
  (hv:v.cells.toList = [v]):∃ c,R [c] /\ AVR W (fun _=>False) [] bE (.one (.c c)) v:=by
 obtain ⟨fuel,hf⟩:=h
 obtain ⟨l,h1,h2⟩:=hr H enc W fuel _ _ hf
 rw [hv] at h2
 match l,h2 with
 | [c],h2=>exact ⟨c,h1,.one _ _ (.c _ _ (h2.2 0 c v rfl rfl))⟩
 | [],h2=>exact absurd h2.1 (by simp)
 | _ :: _ :: _,h2=>exact absurd h2.1 (by simp)
theorem avr_agg {R:List CV -> Prop} (hr:sD P t R) {H:Type} {enc:TypeId × Value -> H} {W:World} {cs:Array Value} {d:DataW H} {ps:List MemPlace} (h:DataW.Trod enc P W 0 (fun _=>SA) SA t (.agg cs) d ps) :
  ∃ l,R l /\ AVR W (fun _=>False) [] bE (.agg (l.map .c)) (.agg cs):=by
 obtain ⟨fuel,hf⟩:=h
 obtain ⟨l,h1,h2⟩:=hr H enc W fuel _ _ hf
 refine ⟨l,h1,?_⟩
 have h2':PW (CR W (fun _=>False)) l cs.toList:=h2
 have:=AVR.agg (w:=W) (bad:=fun _=>False) (h:=[]) (hd:=bE) (l.map .c) cs.toList (by rw [eA];exact h2'.1) (fun i c v hc hv=>by
  rw [List.getElem?_map] at hc
  cases hq:l[i]? with
  | none=>simp [hq] at hc
  | some q=>simp [hq] at hc;subst hc;exact .c _ _ (h2'.2 i q v hq hv))
 exact this
theorem law_calls {f:FuncId} {args:List AV} {vals:List Value} (hc:YA P f args (.ret (.one (.c (.val (.bool SA)))))) {W:World} (hG:GB (fun _=>False) W.heap.size W) (hp:PW (AVR W (fun _=>False) [] bE) args vals) :
  Calls P f vals.toArray W fun e W'=>e = .returned (.bool SA) /\ Below W.heap.size W W':=by
 refine (hc.2 W (fun _=>False) vals ⟨fun g h=>h.elim,hG⟩ hp).mono ?_
 rintro e W' ⟨v,rfl,hb,hr⟩
 have:v = .bool SA:=hr.val
 subst this
 exact ⟨rfl,hb⟩
end Go.Am
namespace Go.Am
open Go.RowKit
variable {GL:Glb}
variable {P:Program} {opn:List FuncId} {K:St -> Prop}
def pJ:List Blk -> Nat -> Bool -> List Blk
 | [],_,_=>[]
 | k :: l,0,b=>{ k with live:=b } :: l
 | k :: l,n + 1,b=>k :: pJ l n b
theorem nJ {v e:Nat} {ty:TypeId} {els:List (List Cell)} {lv nn b:Bool} {l:List Blk}:pJ (⟨v,ty,e,els,lv,nn⟩ :: l) 0 b = ⟨v,ty,e,els,b,nn⟩ :: l:=rfl
theorem oJ {k:Blk} {n:Nat} {b:Bool} {l:List Blk}:pJ (k :: l) (n + 1) b = k :: pJ l n b:=rfl
theorem NL {t:List AV} {h:List Blk} {dst:Option Tmp} {f:FuncId} {args:List Operand} {az cas:List AV} {av:AV} {os:List CO} {ids:List Nat} (i:Nat) (hp:YA P f cas (.ret av)) (ha:sC ⟨t,h⟩ (.func f) args = PA (f,az)) (hcl:az.mapM (VB h 3) = PA cas)
  (hu:(az.map (kC h 3)).flatten = ids) (h1:freeze ids h = pJ h i TA) (h2:h = pJ h i SA) (hk:∀ b:Bool,dC P opn os ⟨VC t dst av,pJ h i b⟩ K) :
  qD P opn ⟨dst,QA,.callf (.func f) args⟩ os ⟨t,h⟩ K:=by
 cases hf:LE av with
 | true=>exact aD hp ha hcl hf (by rw [h2];simpa using hk SA)
 | false=>exact cJ hp ha hcl hf hu h1 (hk TA)
end Go.Am
namespace Go.Am
open Go.RowKit Go.Off
variable {GL:Glb}
variable {P:Program} {opn:List FuncId} {K:St -> Prop}
theorem PM {t:List AV} {h:List Blk} {dst:Option Tmp} {x:Tmp} {want:Bool} {f:FuncId} {args:List Operand} {as:List AV} {r:AV} {os:List CO} (hp:DE P f as h r h) (hw:zM opn (.func f) = SA) (ha:sC ⟨t,h⟩ (.func f) args = PA (f,as)) (hg:tD ⟨t,h⟩ x want = PA SA)
  (hk:dC P opn os ⟨VC t dst r,h⟩ K):qD P opn ⟨dst,PA (x,want),.callf (.func f) args⟩ os ⟨t,h⟩ K:=by
 unfold qD
 rw [BC]
 simp only [hg,if_true]
 exact ⟨r,h,⟨f,as,ha,.inr (.inr ⟨hw,rfl,hp⟩)⟩,hk⟩
theorem JB {n v e:Nat} {ty:TypeId} {els:List (List Cell)} {l nn:Bool}:uB n ⟨v,ty,e,els,l,nn⟩ = ⟨v,ty,e,els.map (·.map (XA n)),l,nn⟩:=rfl
theorem EB {ids:List Nat} {i:Nat} {k:Blk} {h:List Blk} (hc:ids.contains i = TA):gE ids i (k :: h) = k :: gE ids (i + 1) h:=by
 show ({ k with live:=if ids.contains i then TA else k.live } :: gE ids (i + 1) h:List Blk) = _
 rw [hc]
 rfl
def aK (k:Blk):Prop:=∀ n,uB n k = k
theorem TB.closeO {α:Type} {g:α -> List CV} {n0:Nat} {t:List AV} {h:List Blk} {i b ver ty e:Nat} {live nn:Bool} {l:List α} (hi:t[i]? = PA (.one (.own b ver))) (hk:h[b]? = PA ⟨ver,ty,e,wB g l,live,nn⟩) (h0:0 < e) (hn:nn = !l.isEmpty) :
  TB n0 ⟨t,h⟩ ⟨t.set i (.one (.c (jB e g (aC l)))),Am.freeze [b] h⟩:=by
 have:=TB.close (GL:=GL) (n0:=n0) (st:=⟨t,h⟩) hi (BB hk h0 hn)
 rw [show kC h 3 (.one (.own b ver)) = [b] from xC hk] at this
 exact this
theorem mapM_cc {h:List Blk} {n:Nat}:∀ cs:List CV,(cs.map Cell.c).mapM (XB h n) = PA cs
 | []=>rfl
 | x :: cs=>by
  have e:XB h n (.c x) = PA x:=by cases n <;> rfl
  rw [List.map_cons,List.mapM_cons,e,mapM_cc cs];rfl
theorem used_c0 {h:List Blk} {n:Nat}:∀ cs:List CV,((cs.map Cell.c).map (EC h n)).flatten = []
 | []=>rfl
 | x :: cs=>by
  have e:EC h n (.c x) = []:=by cases n <;> rfl
  rw [List.map_cons,List.map_cons,List.flatten_cons,e,used_c0 cs];rfl
theorem TB.closeP {n0:Nat} {t:List AV} {h:List Blk} {i b ver ty e:Nat} {live nn:Bool} {cs:List CV} (hi:t[i]? = PA (.one (.ptr b ver 0 0))) (hk:h[b]? = PA ⟨ver,ty,e,[cs.map .c],live,nn⟩) :
  TB n0 ⟨t,h⟩ ⟨t.set i (.one (.iptr cs)),Am.freeze [b] h⟩:=by
 have h1:VB h 3 (.one (.ptr b ver 0 0)) = PA (.one (.iptr cs)):=by
  simp only [VB,yE,jC,hk,if_true,List.getElem?_cons_zero,List.drop_zero,mapM_cc,Option.map_some]
 have h2:kC h 3 (.one (.ptr b ver 0 0)) = [b]:=by
  simp only [kC,fJ,DC,hk,List.getElem?_cons_zero,List.drop_zero,used_c0]
 have:=TB.close (GL:=GL) (n0:=n0) (st:=⟨t,h⟩) hi h1
 rw [h2] at this
 exact this
def set34:List Blk -> Bool -> Bool -> List Blk
 | a :: b :: c :: t :: s :: l,x,y=>a :: b :: c :: { t with live:=x } :: { s with live:=y } :: l
 | l,_,_=>l
theorem AH {a b c:Blk} {v v' e e':Nat} {ty ty':TypeId} {els els':List (List Cell)} {l l' nn nn' x y:Bool} {h:List Blk}:set34 (a :: b :: c :: ⟨v,ty,e,els,l,nn⟩ :: ⟨v',ty',e',els',l',nn'⟩ :: h) x y = a :: b :: c :: ⟨v,ty,e,els,x,nn⟩ :: ⟨v',ty',e',els',y,nn'⟩ :: h:=rfl
theorem YE {t:List AV} {h:List Blk} {dst:Option Tmp} {f:FuncId} {args:List Operand} {as cas:List AV} {av:AV} {os:List CO} {ids:List Nat} (hp:YA P f cas (.ret av)) (ha:sC ⟨t,h⟩ (.func f) args = PA (f,as)) (hcl:as.mapM (VB h 3) = PA cas)
  (hu:(as.map (kC h 3)).flatten = ids) {x1 y1 x2 y2:Bool} (h1:freeze ids h = set34 h x1 y1) (h2:h = set34 h x2 y2) (hk:∀ x y:Bool,dC P opn os ⟨VC t dst av,set34 h x y⟩ K) :
  qD P opn ⟨dst,QA,.callf (.func f) args⟩ os ⟨t,h⟩ K:=by
 cases hf:LE av with
 | true =>
  exact aD hp ha hcl hf (by have:=hk x2 y2;rw [<- h2] at this;exact this)
 | false =>
  exact cJ hp ha hcl hf hu h1 (hk x1 y1)
theorem uJ {P:Program} {opn:List FuncId} {f:FuncId} {fn:Func} {code:Code} {cc:CC} {args:List AV} {r:AV} {rs:List RV} {h0 h':List Blk} (hf:P.funcs[f]? = PA fn) (hcall:SH P f) (hb:fn.body = PA code) (hcc:ZA P opn code = PA cc) (hres:fn.results.toList.mapM (uR P) = PA rs)
  (h:uD P opn h0.length cc (leaves fun s=>∃ s',TB h0.length s s' /\ s'.h = h' /\ SN rs s' = PA r) ⟨args ++ jA (fn.ntmps - args.length) .junk,h0⟩):DE P f args h0 r h':=by
 refine ⟨hcall,fun B0 M0 w hd vals H hM0 hBG hp=>(callsIn_wide (n:=0)).1 ?_⟩
 obtain ⟨hB0,hG⟩:=hBG
 let X:Ctx:=⟨B0,w,M0,hM0,hB0,h0,hd,fun _ _=>False,fun k o h=>h.elim,QA,fun l h=>(by cases h),0,hG⟩
 have r0:Rel X ⟨args ++ jA (fn.ntmps - args.length) .junk,h0⟩ hd { tmps:=vals.toArray ++ Array.replicate (fn.ntmps - vals.toArray.size) undef,defers:=[] } w :=
  ⟨Below.refl _ _,pP hp fn.ntmps,H,Tr.refl _ _ _ _,(fun k o h=>h.elim),fN _,⟨[],rfl,List.nodup_nil,(fun D hD=>by cases hD)⟩⟩
 refine callsIn_of_wp_marks hf hb trivial ?_ rfl
 refine wpIn_mono (h code hcc X 0 hd _ w rfl r0) ?_
 rintro e a' w' ⟨s,hd',q,r'⟩
 have fin:(∃ s',TB h0.length s s' /\ s'.h = h' /\ SN rs s' = PA r) -> LeavesInM (Wd QA) 0 P fn a'.tmps (fun e w'=>∃ v hd',e = .returned v /\ Below B0 w w' /\ HR B0 M0 w' h' hd' /\ Tr w (iB M0 h0 hd) h0 hd w' (iB M0 h' hd') h' hd' /\ AVR w' (iB M0 h' hd') h' hd' r v) a'.defers .returning w':=by
  rintro ⟨s',hfg,rfl,hx⟩
  obtain ⟨hd'',r'⟩:=hfg X hd' a' w' rfl r'
  obtain ⟨Ds,hDs,hN,hD⟩:=r'.marks
  rw [hDs]
  refine MK (B1:=w.heap.size) Ds w' hN hD (fun w'' hbel hk=>?_)
  obtain ⟨v,hv,hav⟩:=AL hres hx (r'.heap.kept hk) (fun t=>(r'.sees (.tmp t)).kept hk)
  refine ⟨v,hv,v,hd'',rfl,r'.below.trans (hbel.mono hB0),r'.heap.kept hk,?_,hav⟩
  refine ⟨fun g hg hl=>(hbel.block g hl).trans (r'.tr.blk g hg hl),r'.tr.ok,GA r'.tr.size hk.1,r'.tr.own⟩
 cases e with
 | normal=>exact fin q
 | ret=>exact fin q
 | _=>exact q.elim
theorem phIdx_v {k:Blk} {h:List Blk} (h0:0 < k.e):mD (k :: h) = (mD h).map (· + 1):=by
 conv=>lhs;unfold mD
 exact if_neg (fun hh=>by have:=hh.1;omega)
end Go.Am
namespace Go.Am
open Go.RowKit Go.Off Go.ChangeShapes Go.WideShapes
variable {GL:Glb}
variable {P:Program} {t:TypeId}
theorem wR {f0 f1 f2 f3:Field} {R0 R1 R2 R3:List CV -> Prop} {c0 c1 c2 c3:Nat} (ht:P.underlying t = PA (.struct #[f0,f1,f2,f3])) (h0:f0.offset = 0) (hc0:P.cellsOf f0.type = c0) (h1:f1.offset = c0) (hc1:P.cellsOf f1.type = c1)
  (h2:f2.offset = c0 + c1) (hc2:P.cellsOf f2.type = c2) (h3:f3.offset = c0 + c1 + c2) (hc3:P.cellsOf f3.type = c3)
  (hc:P.cellsOf t = c0 + c1 + c2 + c3) (r0:sD P f0.type R0) (r1:sD P f1.type R1) (r2:sD P f2.type R2) (r3:sD P f3.type R3) :
  sD P t (fun l=>∃ l0 l1 l2 l3,R0 l0 /\ R1 l1 /\ R2 l2 /\ R3 l3 /\ l = l0 ++ (l1 ++ (l2 ++ l3))):=fun H enc w fuel cs x h=>by
 obtain ⟨xs,n,_,rfl,hl,hlen,hf⟩:=DataW.trod_struct ht h
 match xs,hlen with
 | [y0,y1,y2,y3],_ =>
  obtain ⟨l0,a0,p0⟩:=r0 H enc w n _ _ (by simpa using hf 0 f0 rfl)
  obtain ⟨l1,a1,p1⟩:=r1 H enc w n _ _ (by simpa using hf 1 f1 rfl)
  obtain ⟨l2,a2,p2⟩:=r2 H enc w n _ _ (by simpa using hf 2 f2 rfl)
  obtain ⟨l3,a3,p3⟩:=r3 H enc w n _ _ (by simpa using hf 3 f3 rfl)
  refine ⟨_,⟨l0,l1,l2,l3,a0,a1,a2,a3,rfl⟩,?_⟩
  have:=p0.append (p1.append (p2.append p3))
  rw [h0,hc0,h1,hc1,h2,hc2,h3,hc3,List.drop_zero] at this
  have e3:(cs.drop (c0 + c1 + c2)).take c3 = cs.drop (c0 + c1 + c2):=List.take_of_length_le (by rw [List.length_drop,hl,hc];omega)
  have e2:(cs.drop (c0 + c1)).take c2 ++ cs.drop (c0 + c1 + c2) = cs.drop (c0 + c1):=by
   have:=List.take_append_drop c2 (cs.drop (c0 + c1))
   rwa [List.drop_drop] at this
  have e1:(cs.drop c0).take c1 ++ cs.drop (c0 + c1) = cs.drop c0:=by
   have:=List.take_append_drop c1 (cs.drop c0)
   rwa [List.drop_drop] at this
  rw [e3,e2,e1,List.take_append_drop] at this
  exact this
end Go.Am
namespace Go.Am
open Go.RowKit
abbrev J4 (l:List AV):List AV:=.junk :: .junk :: .junk :: .junk :: l
abbrev J8 (l:List AV):List AV:=J4 (J4 l)
abbrev L8 (l:List AV):List AV:=J8 (J8 l)
abbrev K8 (l:List AV):List AV:=L8 (L8 l)
abbrev F4 (l:List Bool):List Bool:=TA :: TA :: TA :: TA :: l
abbrev F8 (l:List Bool):List Bool:=F4 (F4 l)
abbrev F16 (l:List Bool):List Bool:=F8 (F8 l)
abbrev M8 (l:List Bool):List Bool:=F16 (F16 l)
abbrev tP (n:Nat):Operand:=.tmp n
abbrev nC:Operand:=.const (.slice QA 0 0)
abbrev oD (d:Nat) (c:COp):CO:=⟨PA d,QA,c⟩
abbrev oG (d x:Nat) (b:Bool) (c:COp):CO:=⟨PA d,PA (x,b),c⟩
abbrev mV (d s:Nat):CO:=⟨PA d,QA,.mv (.tmp s)⟩
abbrev mI (d:Nat) (z:Int):CO:=⟨PA d,QA,.mv (.const (.int .i64 z))⟩
abbrev mB (d:Nat) (b:Bool):CO:=⟨PA d,QA,.mv (.const (.bool b))⟩
abbrev gM (d x:Nat) (b:Bool) (s:Nat):CO:=⟨PA d,PA (x,b),.mv (.tmp s)⟩
abbrev xA (d e s i:Nat):CO:=⟨PA d,QA,.iaddr e QA (.tmp s) (.tmp i)⟩
abbrev lF (d n s:Nat):CO:=⟨PA d,QA,.load n TA (.tmp s)⟩
abbrev lT (d n s:Nat):CO:=⟨PA d,QA,.load n SA (.tmp s)⟩
abbrev nL (d s:Nat):CO:=⟨PA d,QA,.len TA (.tmp s)⟩
abbrev fA (d o s:Nat):CO:=⟨PA d,QA,.faddr o (.tmp s)⟩
abbrev sT (n x y:Nat):CO:=⟨QA,QA,.store n (.tmp x) (.tmp y)⟩
abbrev bB (d:Nat) (op:BinOp) (x y:Nat):CO:=⟨PA d,QA,.bin op (.tmp x) (.tmp y)⟩
abbrev bC (d:Nat) (op:BinOp) (x:Nat) (z:Int):CO:=⟨PA d,QA,.bin op (.tmp x) (.const (.int .i64 z))⟩
abbrev uN (d x:Nat):CO:=⟨PA d,QA,.un .not (.tmp x)⟩
abbrev eX (d x i:Nat):CO:=⟨PA d,QA,.ext (.tmp x) i⟩
abbrev pT (d x y:Nat):CO:=⟨PA d,QA,.pick (.tmp x) (.const (.bool SA)) (.tmp y)⟩
abbrev pF (d x y:Nat):CO:=⟨PA d,QA,.pick (.tmp x) (.tmp y) (.const (.bool TA))⟩
variable {GL:Glb}
theorem TB.headA {n0 m:Nat} (hn:n0 <= m) (ls:List Bool) {t t':List AV} {h h':List Blk} (ht:IB m ls t = t':=by first | (simp (disch:=omega) only [pD,IB,lB,XA,clean1,uB,reduceIte,Int.reduceSub,Int.reduceAdd,Int.reduceNeg];done) | rfl) (hh:(h.take m).map (uB m) = h':=by first | (simp (disch:=omega) only [pD,IB,lB,XA,clean1,uB,reduceIte,Int.reduceSub,Int.reduceAdd,Int.reduceNeg];done) | rfl):TB n0 ⟨t,h⟩ ⟨t',h'⟩:=TB.head hn ls ht hh
theorem TB.headP {n0 m:Nat} (hn:n0 <= m) (ls:List Bool) {t t':List AV} {h h':List Blk} (ht:IB m ls t = t':=by first | (simp (disch:=omega) only [pD,IB,lB,XA,clean1,JB,reduceIte,Int.reduceSub,Int.reduceAdd,Int.reduceNeg];done) | rfl) (hh:(h.take m).map (uB m) = h':=by first | (simp (disch:=omega) only [pD,IB,lB,XA,clean1,JB,reduceIte,Int.reduceSub,Int.reduceAdd,Int.reduceNeg];done) | rfl):TB n0 ⟨t,h⟩ ⟨t',h'⟩:=TB.head hn ls ht hh
theorem TB.headN {n0 m:Nat} (hn:n0 <= m) (ls:List Bool) {t t':List AV} {h h':List Blk} (ht:IB m ls t = t':=by first | (simp (disch:=omega) only [pD,IB,lB,XA,clean1,uB,reduceIte,Int.reduceSub,Int.reduceAdd,Int.reduceNeg,CE];done) | rfl) (hh:(h.take m).map (uB m) = h':=by first | (simp (disch:=omega) only [pD,IB,lB,XA,clean1,uB,reduceIte,Int.reduceSub,Int.reduceAdd,Int.reduceNeg,CE];done) | rfl):TB n0 ⟨t,h⟩ ⟨t',h'⟩:=TB.head hn ls ht hh
theorem TB.headE {n0 m:Nat} (hn:n0 <= m) (ls:List Bool) {t t':List AV} {h h':List Blk} (ht:IB m ls t = t':=by first | (simp (disch:=omega) only [pD,IB,lB,XA,clean1,uB,reduceIte,Int.reduceSub,Int.reduceAdd,Int.reduceNeg,kA,KA,LA];done) | rfl) (hh:(h.take m).map (uB m) = h':=by first | (simp (disch:=omega) only [pD,IB,lB,XA,clean1,uB,reduceIte,Int.reduceSub,Int.reduceAdd,Int.reduceNeg,kA,KA,LA];done) | rfl):TB n0 ⟨t,h⟩ ⟨t',h'⟩:=TB.head hn ls ht hh
variable {P:Program} {opn:List FuncId} {K:St -> Prop} {t:List AV} {h h':List Blk} {dst:Option Tmp} {x:Tmp} {want:Bool} {f:FuncId} {args:List Operand} {as cas:List AV} {av:AV} {os:List CO} {ids:List Nat}
theorem UJ (hp:YA P f cas (.ret av)) (hk:dC P opn os ⟨VC t dst av,h⟩ K) (ha:sC ⟨t,h⟩ (.func f) args = PA (f,as):=by rfl) (hg:tD ⟨t,h⟩ x want = PA SA:=by first | (simp (disch:=first | omega | (simp only [sB];omega)) only [qB,reduceIte,reduceCtorEq,Int.reduceToNat,Nat.reduceAdd,Nat.reduceSub,Nat.reduceMul,Int.reduceAdd,Int.reduceSub,Int.reduceMul,Int.reduceNeg];done) | fail) (hcl:as.mapM (VB h 3) = PA cas:=by first | (simp only [oE,St.ev,yB,NE];(repeat (first | exact kB | (apply gB;(first | (refine CB rfl (by decide)) | (refine BB rfl (by decide) ?_;assumption) | rfl))));done) | fail)
  (hu:(as.map (kC h 3)).flatten = []:=by rfl):qD P opn ⟨dst,PA (x,want),.callf (.func f) args⟩ os ⟨t,h⟩ K:=TH hp ha hg hcl hu hk
theorem zqF (hp:YA P f cas (.ret av)) (hk:dC P opn os ⟨VC t dst av,h⟩ K) (ha:sC ⟨t,h⟩ (.func f) args = PA (f,as):=by rfl) (hcl:as.mapM (VB h 3) = PA cas:=by first | (simp only [oE,St.ev,yB,NE];(repeat (first | exact kB | (apply gB;(first | (refine CB rfl (by decide)) | (refine BB rfl (by decide) ?_;assumption) | rfl))));done) | fail) (hf:LE av = SA:=by rfl):qD P opn ⟨dst,QA,.callf (.func f) args⟩ os ⟨t,h⟩ K:=aD hp ha hcl hf hk
theorem zqR (hp:YA P f cas (.ret av)) (hk:dC P opn os ⟨VC t dst av,h'⟩ K) (ha:sC ⟨t,h⟩ (.func f) args = PA (f,as):=by rfl) (hcl:as.mapM (VB h 3) = PA cas:=by first | (simp only [oE,St.ev,yB,NE];(repeat (first | exact kB | (apply gB;(first | (refine CB rfl (by decide)) | (refine BB rfl (by decide) ?_;assumption) | rfl))));done) | fail) (hf:LE av = TA:=by rfl) (hu:(as.map (kC h 3)).flatten = ids:=by first | (simp only [oE,St.ev,yB,NE];(repeat (first | exact RC | (apply AC;(first | (apply xC;rfl) | rfl))));done) | fail) (hh:freeze ids h = h':=by ((simp only [YH,Nat.reduceBEq,Nat.reduceAdd,IA,if_true,if_false,reduceIte]) <;> rfl)):qD P opn ⟨dst,QA,.callf (.func f) args⟩ os ⟨t,h⟩ K:=cJ hp ha hcl hf hu hh hk
end Go.Am
