/- The abstract memory: regions, in whatever order they are run. -/
import Derived.Scope
import Derived.LoopNIn
import Derived.Test.YtncgbjhojbnecaaGreatU1
set_option linter.unusedSimpArgs false
set_option linter.unusedVariables false
set_option linter.unnecessarySimpa false
open Bool renaming true -> SA, false -> TA, false_eq_true -> IA, and_eq_true -> JA
open Option renaming some -> PA, none -> QA, map_eq_some_iff -> AA, bind_eq_some_iff -> CA
open List renaming getElem?_eq_some_iff -> dA, getElem?_eq_getElem -> aA, map_congr_left -> wA, mem_map -> yA, length_cons -> oA, mem_range -> zA, length_append -> sA, length_map -> eA, replicate -> jA, map_map -> uA, length_replicate -> tA, cons_append -> rA
open Option.some renaming injEq -> BA
open Prod.mk renaming injEq -> MA
open Nat renaming le_refl -> EA, lt_of_lt_of_le -> HA
namespace Go.Am
open Go.RowKit
variable {GL:Glb}
variable {P:Program} {opn:List FuncId} {w w':World} {M0:Nat -> Prop} {h h0 h1 h2 h':List Blk} {hd hd':Nat -> Value} {B0:Nat} {bad bad':Nat -> Prop} {X:Ctx} {st st':St} {a:Act} {t t' t2:List AV}
def CD (h:List Blk) (ids:List Nat):Ret -> AV × List Blk
 | .ret av=>if LE av then (av,h) else (av,freeze ids h)
 | .fresh ty e l nn=>(.one (.own h.length 0),freeze ids h ++ [⟨0,ty,e,l.map (·.map .c),SA,nn⟩])
theorem pureEnd_eq (st:St) (dst:Option Tmp) (ids:List Nat) (r:Ret):rM st dst ids r = ⟨VC st.t dst (CD st.h ids r).1,(CD st.h ids r).2⟩:=by
 cases r with
 | ret av=>simp only [rM,CD];split <;> rfl
 | fresh ty e l nn=>rfl
theorem pureRes_sim (h:List Blk) (ids:List Nat) (r:Ret):SJ h (CD h ids r).2:=by
 cases r with
 | ret av =>
  simp only [CD]
  split
  ·exact SJ.refl h
  ·exact SJ.freeze ids h
 | fresh ty e l nn=>exact (SJ.freeze ids h).trans (SJ.append _ _)
def SO (opn:List FuncId):Operand -> Bool
 | .func g=>opn.contains g
 | .tmp _=>opn.contains 2000000
 | _=>TA
def zM (opn:List FuncId):Operand -> Bool
 | .func g=>opn.contains (g + 1000000)
 | _=>TA
def XH [Glb] (P:Program) (opn:List FuncId) (t:List AV) (h:List Blk):COp -> AV -> List Blk -> Prop
 | .callf f args,av,h'=>∃ g as,sC ⟨t,h⟩ f args = PA (g,as) /\
   ((∃ cas r,as.mapM (VB h 3) = PA cas /\ YA P g cas r /\ (av,h') = CD h (as.map (kC h 3)).flatten r) \/ (SO opn f = SA /\ DE P g as h av h') \/ (zM opn f = SA /\ h' = h /\ DE P g as h av h'))
 | op,av,h'=>cstep ⟨t,h⟩ op = PA (av,h')
def OV [Glb] (P:Program) (opn:List FuncId) (o:CO) (t:List AV) (h:List Blk) (av:AV) (h':List Blk):Prop :=
 match o.guard with
 | none=>XH P opn t h o.op av h'
 | some (x,want)=>∃ g,tD ⟨t,h⟩ x want = PA g /\ (g = SA -> XH P opn t h o.op av h') /\ (g = TA -> av = .tup [] /\ h' = h)
def OD [Glb] (P:Program) (opn:List FuncId) (o:CO) (st st':St):Prop:=∃ av h',OV P opn o st.t st.h av h' /\ st' = ⟨VC st.t o.dst av,h'⟩
def rD [Glb] (P:Program) (opn:List FuncId):List CO -> St -> St -> Prop
 | [],st,st'=>st' = st
 | o :: os,st,st'=>∃ s1,OD P opn o st s1 /\ rD P opn os s1 st'
theorem XH.opS {op:COp} {av:AV} {dst:Option Tmp} (hv:XH P opn st.t st.h op av h'):OpS P st dst op ⟨VC st.t dst av,h'⟩:=by
 cases op with
 | callf f args =>
  obtain ⟨g,as,hca,hc | ⟨_,hc⟩ | ⟨_,_,hc⟩⟩:=hv
  ·obtain ⟨cas,r,hm,hp,he⟩:=hc
   refine ⟨g,as,hca,.inl ⟨cas,r,hm,hp,?_⟩⟩
   rw [pureEnd_eq,<- he]
  ·exact ⟨g,as,hca,.inr ⟨av,h',hc,rfl⟩⟩
  ·exact ⟨g,as,hca,.inr ⟨av,h',hc,rfl⟩⟩
 | _=>exact ⟨av,h',hv,rfl⟩
theorem AM {ops:Array Oper} {o:Oper} {j:Nat} {want:Bool} {x:Tmp} (r:Rel X st hd a w) (hg:o.guard = PA (j,want)) (hx:(ops[j]?).bind (·.dst) = PA x) {g:Bool} (hw:tD st x want = PA g) :
  Region.wanted o (yielded ops a.tmps) = g:=by
 unfold Region.wanted
 rw [hg]
 simp only
 unfold yielded
 rw [hx]
 unfold tD at hw
 split at hw
 ·rename_i b hb
  have hlt:x < a.tmps.toList.length:=by rw [<- r.slots.1];exact (dA.1 hb).1
  have hv:=(r.slots.2 x _ _ hb (aA hlt)).val
  have:a.tmps[x]? = PA (.bool b):=by
   rw [<- hv];simp only [Array.length_toList] at hlt;simp [hlt]
  simp only [Option.bind_some,this]
  simp only [BA] at hw
  rw [<- hw]
  cases b <;> cases want <;> rfl
 ·rename_i hb
  have hlt:x < a.tmps.toList.length:=by rw [<- r.slots.1];exact (dA.1 hb).1
  have hv:=r.slots.2 x _ _ hb (aA hlt)
  have hv':a.tmps.toList[x] = .tuple #[]:=by
   generalize a.tmps.toList[x] = u at hv
   cases hv with
   | tup l vs hl hh =>
    have:vs = []:=List.eq_nil_of_length_eq_zero hl.symm
    rw [this]
  have:a.tmps[x]? = PA (.tuple #[]):=by
   rw [<- hv'];simp only [Array.length_toList] at hlt;simp [hlt]
  simp only [Option.bind_some,this]
  simp only [BA] at hw
  rw [<- hw]
  rfl
 ·cases hw
theorem od_ok (r:Rel X st hd a w) {ops:Array Oper} {o:Oper} {co:CO} {i:Nat} {rd:Option Nat} {n:Nat} {Q:Exit -> Act -> World -> Prop} {K:Act -> World -> Prop} (hi:ops[i]? = PA o) (hc:YI P ops o co) (hs:OD P opn co st st')
  (hK:∀ hd' a' w',Rel X st' hd' a' w' -> K a' w'):wpOpIn (Wd rd) n P ops Q i K a w:=by
 obtain ⟨hdst,hcop,hgd⟩:=hc
 obtain ⟨av,h',hv,rfl⟩:=hs
 unfold wpOpIn
 rw [hi]
 simp only
 unfold OV at hv
 cases hg:o.guard with
 | none =>
  rw [hg] at hgd
  simp only at hgd
  rw [hgd] at hv
  simp only at hv
  have hw:Region.wanted o (yielded ops a.tmps) = SA:=by unfold Region.wanted;rw [hg]
  rw [if_pos hw]
  refine ES r hcop (st':=⟨VC st.t o.dst av,h'⟩) hv.opS (fun hd' a' w' hr=>?_)
  rw [<- hdst] at hr
  exact hK hd' a' w' hr
 | some jw =>
  obtain ⟨j,want⟩:=jw
  rw [hg] at hgd
  obtain ⟨x,hx,hgd⟩:=hgd
  rw [hgd] at hv
  obtain ⟨g,hgw,h1,h2⟩:=hv
  have hw:=AM r hg hx hgw
  cases g with
  | true =>
   rw [if_pos hw]
   refine ES r hcop (st':=⟨VC st.t o.dst av,h'⟩) (h1 rfl).opS (fun hd' a' w' hr=>?_)
   rw [<- hdst] at hr
   exact hK hd' a' w' hr
  | false =>
   rw [if_neg (by rw [hw];simp)]
   obtain ⟨rfl,rfl⟩:=h2 rfl
   refine ⟨fun f _=>trivial,hK hd _ _ ?_⟩
   rw [hdst]
   exact r.step (PC w QA) lD r.heap (Tr.refl _ _ _ _) (.tup [] [] rfl (fun i c v h=>by simp at h))
def tmpsOf (xs:List Operand):List Tmp:=xs.filterMap fun | .tmp t=>PA t | _=>QA
def names (o:CO):List Tmp:=tmpsOf (gC o.op) ++ (match o.guard with | some (x,_)=>[x] | none=>[])
theorem ev_agree {t t':List AV} {h:List Blk} {xs:List Operand} (hh:∀ x ∈ tmpsOf xs,t[x]? = t'[x]?):∀ x ∈ xs,(⟨t,h⟩:St).ev x = (⟨t',h⟩:St).ev x:=fun x hx=>by
 cases x with
 | tmp y =>
  have:=hh y (List.mem_filterMap.2 ⟨.tmp y,hx,rfl⟩)
  show t.getD y .junk = t'.getD y .junk
  rw [List.getD,List.getD,this]
 | _=>rfl
theorem XH.agree {op:COp} {av:AV} (hh:∀ x ∈ tmpsOf (gC op),t[x]? = t'[x]?) (hv:XH P opn t h op av h'):XH P opn t' h op av h':=by
 have ev:=ev_agree (h:=h) hh
 cases op with
 | callf f args =>
  obtain ⟨g,as,hca,hc⟩:=hv
  refine ⟨g,as,?_,hc⟩
  unfold sC at hca ⊢
  rw [<- ev f (by simp [gC])]
  have he:oE ⟨t',h⟩ args = oE ⟨t,h⟩ args:=wA fun x hx=>(ev x (by simp [gC,hx])).symm
  rw [he]
  exact hca
 | _ =>
  have hv':cstep ⟨t,h⟩ _ = PA (av,h'):=hv
  show cstep ⟨t',h⟩ _ = PA (av,h')
  rw [<- cstep_congr ev];exact hv'
theorem OV.agree {o:CO} {av:AV} (hh:∀ x ∈ names o,t[x]? = t'[x]?) (hv:OV P opn o t h av h'):OV P opn o t' h av h':=by
 unfold OV at hv ⊢
 unfold names at hh
 cases hg:o.guard with
 | none =>
  rw [hg] at hv hh
  exact XH.agree (fun x hx=>hh x (by simp [hx])) hv
 | some p =>
  obtain ⟨x,want⟩:=p
  rw [hg] at hv hh
  obtain ⟨g,h1,h2,h3⟩:=hv
  refine ⟨g,?_,fun e=>XH.agree (fun x hx=>hh x (by simp [hx])) (h2 e),h3⟩
  unfold tD at h1 ⊢
  rw [<- hh x (by simp)]
  exact h1
theorem WR {f:Operand} {args:List Operand}:sC ⟨t,h⟩ f args = sC ⟨t,h'⟩ f args:=by
 unfold sC
 rw [DJ t h h' f]
 have:oE ⟨t,h⟩ args = oE ⟨t,h'⟩ args:=wA fun x _=>DJ t h h' x
 rw [this]
theorem GE {f:Operand} {args:List Operand}:HE opn (.callf f args) = (if SO opn f then .write else if zM opn f then .quiet else .alloc):=by
 cases f <;> simp [HE,SO,zM]
theorem OV.pure {o:CO} {av:AV} (hc:HE opn o.op = .pure) (hv:OV P opn o t h av h1):h1 = h /\ ∀ h2,OV P opn o t h2 av h2:=by
 have key:∀ {av h1},XH P opn t h o.op av h1 -> h1 = h /\ ∀ h2,XH P opn t h2 o.op av h2:=fun {av h1} hv=>by
  cases ho:o.op with
  | callf f args =>
   rw [ho,GE] at hc
   split at hc
   ·cases hc
   ·split at hc <;> cases hc
  | _ =>
   rw [ho] at hv hc
   obtain ⟨a,b⟩:=yS (opn:=opn) hc hv
   exact ⟨a,b⟩
 unfold OV at hv ⊢
 cases hg:o.guard with
 | none=>rw [hg] at hv;exact key hv
 | some p =>
  rw [hg] at hv
  obtain ⟨g,h1',h2',h3⟩:=hv
  cases g with
  | true =>
   obtain ⟨e,hk⟩:=key (h2' rfl)
   exact ⟨e,fun h2=>⟨SA,h1',fun _=>hk h2,fun e=>by cases e⟩⟩
  | false =>
   obtain ⟨rfl,rfl⟩:=h3 rfl
   exact ⟨rfl,fun h2=>⟨TA,h1',(fun e=>by cases e),fun _=>⟨rfl,rfl⟩⟩⟩
theorem OV.read {o:CO} {av:AV} (hc:HE opn o.op = .read) (hS:SJ h h') :
  ∀ h1,OV P opn o t h av h1 -> h1 = h /\ OV P opn o t h' av h':=by
 have up:∀ {av h1},XH P opn t h o.op av h1 -> h1 = h /\ XH P opn t h' o.op av h':=fun {av h1} hv=>by
  cases ho:o.op with
  | callf f args =>
   rw [ho,GE] at hc
   split at hc
   ·cases hc
   ·split at hc <;> cases hc
  | _ =>
   rw [ho] at hv hc
   exact (read_sim (opn:=opn) hc hS).1 h1 hv
 unfold OV
 cases hg:o.guard with
 | none=>exact fun h1 hv=>up hv
 | some p =>
  intro h1 hv
  obtain ⟨g,h1',h2',h3⟩:=hv
  cases g with
  | true=>obtain ⟨e,hk⟩:=up (h2' rfl);exact ⟨e,SA,h1',fun _=>hk,fun e=>by cases e⟩
  | false=>obtain ⟨rfl,rfl⟩:=h3 rfl;exact ⟨rfl,TA,h1',(fun e=>by cases e),fun _=>⟨rfl,rfl⟩⟩
theorem OV.read_down {o:CO} {av:AV} (hc:HE opn o.op = .read) (hS:sR h h') :
  ∀ h1,(∀ x ∈ gC o.op,mH h ((⟨t,h⟩:St).ev x)) -> OV P opn o t h' av h1 -> h1 = h' /\ OV P opn o t h av h:=by
 have down:∀ {av h1},(∀ x ∈ gC o.op,mH h ((⟨t,h⟩:St).ev x)) -> XH P opn t h' o.op av h1 -> h1 = h' /\ XH P opn t h o.op av h:=fun {av h1} hsc hv=>by
  cases ho:o.op with
  | callf f args =>
   rw [ho,GE] at hc
   split at hc
   ·cases hc
   ·split at hc <;> cases hc
  | _ =>
   rw [ho] at hv hc hsc
   exact read_bmp (opn:=opn) hc hS hsc hv
 unfold OV
 cases hg:o.guard with
 | none=>exact fun h1 hsc hv=>down hsc hv
 | some p =>
  intro h1 hsc hv
  obtain ⟨g,h1',h2',h3⟩:=hv
  cases g with
  | true=>obtain ⟨e,hk⟩:=down hsc (h2' rfl);exact ⟨e,SA,h1',fun _=>hk,fun e=>by cases e⟩
  | false=>obtain ⟨rfl,rfl⟩:=h3 rfl;exact ⟨rfl,TA,h1',(fun e=>by cases e),fun _=>⟨rfl,rfl⟩⟩
theorem OV.alloc {o:CO} {av:AV} (hc:HE opn o.op = .alloc \/ HE opn o.op = .quiet) (hv:OV P opn o t h av h1):SJ h h1:=by
 have key:∀ {av h1},XH P opn t h o.op av h1 -> SJ h h1:=fun {av h1} hv=>by
  cases ho:o.op with
  | callf f args =>
   rw [ho] at hv hc
   rw [GE] at hc
   obtain ⟨g,as,hca,⟨cas,r,_,_,he⟩ | ⟨hw,_⟩ | ⟨_,he,_⟩⟩:=hv
   ·have:h1 = (CD h (as.map (kC h 3)).flatten r).2:=by rw [<- he]
    rw [this]
    exact pureRes_sim h _ r
   ·rw [if_pos hw] at hc;rcases hc with hc | hc <;> cases hc
   ·rw [he];exact SJ.refl h
  | new ty zs =>
   rw [ho] at hv
   simp only [XH,cstep,BA,MA] at hv
   rw [<- hv.2];exact SJ.append _ _
  | box ty x =>
   rw [ho] at hv
   simp only [XH,cstep,AA,MA] at hv
   obtain ⟨_,_,_,rfl⟩:=hv
   exact SJ.append _ _
  | mkrow ty e ps =>
   rw [ho] at hv
   simp only [XH,cstep,AA,MA] at hv
   obtain ⟨_,_,_,rfl⟩:=hv
   exact SJ.append _ _
  | make ty e b zs l c =>
   rw [ho] at hv
   simp only [XH,cstep] at hv
   split at hv
   ·split at hv
    ·simp only [BA,MA] at hv
     rw [<- hv.2];exact SJ.append _ _
    ·cases hv
   ·cases hv
  | append ty e b x y=>rw [ho] at hc;simp only [HE] at hc;split at hc <;> rcases hc with hc | hc <;> cases hc
  | _=>rw [ho] at hc;simp [HE] at hc
 unfold OV at hv
 cases hg:o.guard with
 | none=>rw [hg] at hv;exact key hv
 | some p =>
  rw [hg] at hv
  obtain ⟨g,h1',h2',h3⟩:=hv
  cases g with
  | true=>exact key (h2' rfl)
  | false=>obtain ⟨_,rfl⟩:=h3 rfl;exact SJ.refl _
theorem OV.app {o:CO} {av:AV} (hc:HE opn o.op = .app) (hv:OV P opn o t h av h1):sR h h1:=by
 have key:∀ {av h1},XH P opn t h o.op av h1 -> sR h h1:=fun {av h1} hv=>by
  cases ho:o.op with
  | append ty e b' x y =>
   rw [ho] at hv
   simp only [XH,cstep,CA] at hv
   obtain ⟨ys,_,hv⟩:=hv
   split at hv
   ·rename_i b ver hev
    split at hv
    ·rename_i k hk
     split at hv
     ·simp only [BA,MA] at hv
      rw [<- hv.2]
      intro i ki hki
      by_cases he:i = b
      ·subst he
       rw [hk] at hki
       cases hki
       exact .inr ⟨_,List.getElem?_set_self (dA.1 hk).1,Nat.lt_succ_self _⟩
      ·exact .inl ⟨ki.live,by rw [List.getElem?_set_ne (fun e=>he e.symm)];exact hki⟩
     ·cases hv
    ·cases hv
   ·split at hv
    ·simp only [BA,MA] at hv
     rw [<- hv.2];exact (SJ.append _ _).bmp
    ·cases hv
   ·split at hv
    ·simp only [BA,MA] at hv
     rw [<- hv.2];exact (SJ.append _ _).bmp
    ·cases hv
   ·cases hv
  | callf f args =>
   rw [ho,GE] at hc
   split at hc
   ·cases hc
   ·split at hc <;> cases hc
  | _=>rw [ho] at hc;simp [HE] at hc
 unfold OV at hv
 cases hg:o.guard with
 | none=>rw [hg] at hv;exact key hv
 | some p =>
  rw [hg] at hv
  obtain ⟨g,h1',h2',h3⟩:=hv
  cases g with
  | true=>exact key (h2' rfl)
  | false=>obtain ⟨_,rfl⟩:=h3 rfl;exact sR.refl _
theorem putT_get {dst:Option Tmp} {av:AV} {x:Tmp} (hne:dst ≠ PA x):(VC t dst av)[x]? = t[x]?:=by
 cases dst with
 | none=>rfl
 | some d=>exact List.getElem?_set_ne (fun e=>hne (by rw [e]))
theorem putT_comm {d1 d2:Option Tmp} {v1 v2:AV} (hne:∀ d,d1 = PA d -> d2 ≠ PA d):VC (VC t d1 v1) d2 v2 = VC (VC t d2 v2) d1 v1:=by
 cases d1 with
 | none=>rfl
 | some d =>
  cases d2 with
  | none=>rfl
  | some e=>exact List.set_comm _ _ (fun he=>hne d rfl (by rw [he]))
theorem rD.slots:∀ {pre:List CO} {st sp:St},rD P opn pre st sp -> ∀ (x:Tmp),(∀ p ∈ pre,p.dst ≠ PA x) -> sp.t[x]? = st.t[x]?
 | [],st,sp,hr,x,_=>by cases hr;rfl
 | p :: pre,st,sp,hr0,x,hx=>by
  obtain ⟨s1,⟨av,h1,_,rfl⟩,hr⟩:=hr0
  rw [rD.slots hr x (fun q hq=>hx q (by simp [hq]))]
  exact putT_get (hx p (by simp))
theorem rD.frame {d:Option Tmp} {v:AV}:∀ {pre:List CO} {st sp:St},rD P opn pre st sp -> (∀ p ∈ pre,∀ x,d = PA x -> x ∉ names p /\ p.dst ≠ PA x) -> rD P opn pre ⟨VC st.t d v,st.h⟩ ⟨VC sp.t d v,sp.h⟩
 | [],st,sp,hr,_=>by cases hr;rfl
 | p :: pre,st,sp,hr0,hx=>by
  obtain ⟨s1,⟨av,h1,hv,rfl⟩,hr⟩:=hr0
  refine ⟨⟨VC (VC st.t p.dst av) d v,h1⟩,⟨av,h1,?_,?_⟩,rD.frame hr (fun q hq=>hx q (by simp [hq]))⟩
  ·refine OV.agree (fun y hy=>?_) hv
   exact (putT_get (fun e=>(hx p (by simp) y e).1 hy)).symm
  ·have:=putT_comm (t:=st.t) (d1:=p.dst) (d2:=d) (v1:=av) (v2:=v) (fun x hpx hdx=>(hx p (by simp) x hdx).2 hpx)
   simp only [this]
theorem rD.bmp:∀ {pre:List CO} {st sp:St},rD P opn pre st sp -> (∀ p ∈ pre,HE opn p.op ≠ .write /\ HE opn p.op ≠ .fill) -> sR st.h sp.h
 | [],st,sp,hr,_=>by cases hr;exact sR.refl _
 | p :: pre,st,sp,hr0,hx=>by
  obtain ⟨s1,⟨av,h1,hv,rfl⟩,hr⟩:=hr0
  refine sR.trans (h1:=h1) ?_ (rD.bmp (st:=⟨VC st.t p.dst av,h1⟩) hr (fun q hq=>hx q (by simp [hq])))
  cases hc:HE opn p.op with
  | pure=>rw [(OV.pure hc hv).1];exact sR.refl _
  | read=>rw [(OV.read hc (SJ.refl _) _ hv).1];exact sR.refl _
  | alloc=>exact (OV.alloc (.inl hc) hv).bmp
  | quiet=>exact (OV.alloc (.inr hc) hv).bmp
  | app=>exact OV.app hc hv
  | write=>exact absurd hc (hx p (by simp)).1
  | fill=>exact absurd hc (hx p (by simp)).2
theorem rD.heap:∀ {pre:List CO} {st sp:St} {h':List Blk},rD P opn pre st sp -> ((∀ p ∈ pre,HE opn p.op = .pure) \/ ((∀ p ∈ pre,HE opn p.op = .pure \/ HE opn p.op = .read) /\ SJ st.h h')) -> sp.h = st.h /\ rD P opn pre ⟨st.t,h'⟩ ⟨sp.t,h'⟩
 | [],st,sp,h',hr,_=>by cases hr;exact ⟨rfl,rfl⟩
 | p :: pre,st,sp,h',hr0,hx=>by
  obtain ⟨s1,⟨av,h1,hv,rfl⟩,hr⟩:=hr0
  have step:h1 = st.h /\ OV P opn p st.t h' av h':=by
   rcases hx with hx | ⟨hx,hS⟩
   ·obtain ⟨e,hk⟩:=OV.pure (hx p (by simp)) hv
    exact ⟨e,hk h'⟩
   ·rcases hx p (by simp) with hc | hc
    ·obtain ⟨e,hk⟩:=OV.pure hc hv
     exact ⟨e,hk h'⟩
    ·exact OV.read hc hS _ hv
  obtain ⟨rfl,hk⟩:=step
  have ih:=rD.heap (h':=h') (st:=⟨VC st.t p.dst av,st.h⟩) hr (by
   rcases hx with hx | ⟨hx,hS⟩
   ·exact .inl (fun q hq=>hx q (by simp [hq]))
   ·exact .inr ⟨fun q hq=>hx q (by simp [hq]),hS⟩)
  exact ⟨ih.1,_,⟨av,h',hk,rfl⟩,ih.2⟩
def isPh (k:Blk):Prop:=k.e = 0 /\ k.ver = 0 /\ k.live = SA /\ k.nn = TA /\ k.els = []
theorem BF:∀ {h:List Blk} {b:Nat},mD h = PA b -> ∃ k,h[b]? = PA k /\ isPh k /\ ∀ i k',i < b -> h[i]? = PA k' -> ¬ isPh k'
 | [],b,hh=>by simp [mD] at hh
 | k :: h,b,hh=>by
  unfold mD at hh
  split at hh
  ·rename_i hk
   simp only [BA] at hh
   subst hh
   exact ⟨k,rfl,hk,fun i k' hi=>by omega⟩
  ·rename_i hk
   simp only [AA] at hh
   obtain ⟨b',hb',rfl⟩:=hh
   obtain ⟨k0,h1,h2,h3⟩:=BF hb'
   refine ⟨k0,by simpa using h1,h2,fun i k' hi hk'=>?_⟩
   cases i with
   | zero=>simp at hk';subst hk';exact hk
   | succ i=>exact h3 i k' (by omega) (by simpa using hk')
theorem uM:∀ {h:List Blk} {b:Nat} {k:Blk},h[b]? = PA k -> isPh k -> (∀ i k',i < b -> h[i]? = PA k' -> ¬ isPh k') -> mD h = PA b
 | [],b,k,hb,_,_=>by simp at hb
 | k0 :: h,0,k,hb,hk,_=>by
  simp at hb
  subst hb
  unfold mD
  exact if_pos hk
 | k0 :: h,b + 1,k,hb,hk,hn=>by
  have h0:=hn 0 k0 (by omega) rfl
  have h1:=uM (h:=h) (b:=b) (by simpa using hb) hk (fun i k' hi hk'=>hn (i + 1) k' (by omega) (by simpa using hk'))
  unfold mD
  refine (if_neg h0).trans ?_
  rw [h1]
  rfl
theorem readN_set {b:Nat} {k0 K:Blk} (hk0:h[b]? = PA k0) (hl:k0.els = []) {n:Nat} {x:AV} {cs:List Cell} (hr:ZF h n x = PA cs):ZF (h.set b K) n x = PA cs:=by
 revert hr
 unfold ZF
 split
 ·rename_i b' ver i off
  intro hr
  have hne:b ≠ b':=by rintro rfl;simp [hk0,hl] at hr
  rw [List.getElem?_set_ne hne];exact hr
 ·exact fun h=>h
 ·exact fun h=>h
theorem TS {b:Nat} {k0 K:Blk} (hk0:h[b]? = PA k0) (h0:k0.e = 0) {e:Nat} (he:e ≠ 0) {x:AV} {cs:List (List Cell)} (hr:QD h e x = PA cs):QD (h.set b K) e x = PA cs:=by
 revert hr
 unfold QD
 split
 ·rename_i b' ver
  intro hr
  have hne:b ≠ b':=by rintro rfl;simp only [hk0] at hr;rw [if_neg (by omega)] at hr;cases hr
  rw [List.getElem?_set_ne hne];exact hr
 all_goals exact fun h=>h
theorem lenAV_set {b:Nat} {k0 K:Blk} (hk0:h[b]? = PA k0) (h0:k0.e = 0) {s:Bool} {x:AV} {n:Nat} (hr:OF h s x = PA n):OF (h.set b K) s x = PA n:=by
 revert hr
 unfold OF
 split
 ·rename_i b' ver
  intro hr
  have hne:b ≠ b':=by
   rintro rfl
   simp only [hk0] at hr
   rw [if_neg (show ¬ (ver = k0.ver /\ 0 < k0.e) by omega)] at hr
   split at hr <;> cases hr
  rw [List.getElem?_set_ne hne];exact hr
 all_goals exact fun h=>h
theorem isNilAV_set {b:Nat} {k0 K:Blk} (hk0:h[b]? = PA k0) (h0:k0.e = 0) {s:Bool} {x:AV} {n:Bool} (hr:vE h s x = PA n):vE (h.set b K) s x = PA n:=by
 revert hr
 unfold vE
 split
 ·exact fun h=>h
 ·exact fun h=>h
 ·exact fun h=>h
 ·rename_i b' ver
  intro hr
  have hne:b ≠ b':=by
   rintro rfl
   simp only [hk0] at hr
   rw [if_neg (show ¬ (ver = k0.ver /\ 0 < k0.e) by omega)] at hr
   split at hr <;> cases hr
  rw [List.getElem?_set_ne hne];exact hr
 all_goals exact fun h=>h
theorem EE {α β:Type} {f:α -> Option β}:∀ {l:List α} {r:List β},l.mapM f = PA r -> ∀ a ∈ l,∃ b,f a = PA b
 | [],_,_,a,ha=>by simp at ha
 | x :: l,r,h,a,ha=>by
  rw [List.mapM_cons] at h
  simp only [Option.bind_eq_bind,Option.pure_def] at h
  cases hf:f x with
  | none=>simp [hf] at h
  | some y =>
   cases hr:l.mapM f with
   | none=>simp [hf,hr] at h
   | some rs =>
    rcases List.mem_cons.1 ha with rfl | ha
    ·exact ⟨y,hf⟩
    ·exact EE hr a ha
theorem zK {b:Nat} {k0 K:Blk} (hk0:h[b]? = PA k0) (h0:k0.e = 0):∀ (n:Nat) (c:Cell) (x:CV),XB h n c = PA x -> XB (h.set b K) n c = PA x /\ EC (h.set b K) n c = EC h n c /\ b ∉ EC h n c
 | n,.c y,x,hc=>by cases n <;> exact ⟨hc,rfl,by simp [EC]⟩
 | n,.slx e l,x,hc=>by cases n <;> exact ⟨hc,rfl,by simp [EC]⟩
 | 0,.own b' ver,x,hc=>by simp [XB] at hc
 | 0,.ptr ..,x,hc=>by simp [XB] at hc
 | 0,.iptr _,x,hc=>by simp [XB] at hc
 | 0,.fn f [],x,hc=>⟨hc,rfl,by simp [EC]⟩
 | 0,.fn f (_ :: _),x,hc=>by simp [XB] at hc
 | 0,.mfn _ _,x,hc=>by simp [XB] at hc
 | 0,.junk,x,hc=>by simp [XB] at hc
 | n + 1,.ptr ..,x,hc=>by simp [XB] at hc
 | n + 1,.iptr _,x,hc=>by simp [XB] at hc
 | n + 1,.fn f [],x,hc=>⟨hc,rfl,by simp [EC]⟩
 | n + 1,.fn f (_ :: _),x,hc=>by simp [XB] at hc
 | n + 1,.mfn _ _,x,hc=>by simp [XB] at hc
 | n + 1,.junk,x,hc=>by simp [XB] at hc
 | n + 1,.own b' ver,x,hc=>by
  have hne:b ≠ b':=by
   rintro rfl
   simp only [XB,hk0] at hc
   rw [if_neg (by omega)] at hc
   cases hc
  simp only [XB] at hc ⊢
  simp only [EC]
  rw [List.getElem?_set_ne hne]
  cases hk:h[b']? with
  | none=>simp [hk] at hc
  | some k =>
   simp only [hk] at hc ⊢
   split at hc
   ·rename_i hv
    rw [if_pos hv]
    by_cases hn:k.nn = SA
    ·rw [if_pos hn] at hc
     rw [if_pos hn,if_pos hn,if_pos hn]
     simp only [AA] at hc
     obtain ⟨l,hm,rfl⟩:=hc
     have cell:∀ r ∈ k.els,∀ c ∈ r,XB (h.set b K) n c = XB h n c /\ EC (h.set b K) n c = EC h n c /\ b ∉ EC h n c:=fun r hr c hcr=>by
      obtain ⟨r',hr'⟩:=EE hm r hr
      obtain ⟨y,hy⟩:=EE hr' c hcr
      obtain ⟨a1,a2,a3⟩:=zK hk0 h0 n c y hy
      exact ⟨by rw [a1,hy],a2,a3⟩
     refine ⟨?_,?_,?_⟩
     ·rw [ZD k.els (fun r hr=>ZD r (fun c hcr=>(cell r hr c hcr).1)),hm];rfl
     ·congr 1
      congr 1
      refine wA (fun r hr=>?_)
      congr 1
      exact wA (fun c hcr=>(cell r hr c hcr).2.1)
     ·intro hm'
      rcases List.mem_cons.1 hm' with e | hm'
      ·exact hne e
      ·obtain ⟨l1,hl1,hm''⟩:=List.mem_flatten.1 hm'
       obtain ⟨r,hr,rfl⟩:=yA.1 hl1
       obtain ⟨l2,hl2,hm3⟩:=List.mem_flatten.1 hm''
       obtain ⟨c,hcr,rfl⟩:=yA.1 hl2
       exact (cell r hr c hcr).2.2 hm3
    ·rw [if_neg hn] at hc
     rw [if_neg hn,if_neg hn,if_neg hn]
     exact ⟨hc,rfl,by simpa using hne⟩
   ·cases hc
theorem oL {b:Nat} {k0 K:Blk} (hk0:h[b]? = PA k0) (h0:k0.e = 0) (hl:k0.els = []) (n:Nat) (c x:Cell) (hc:jC h n c = PA x):jC (h.set b K) n c = PA x /\ DC (h.set b K) n c = DC h n c /\ b ∉ DC h n c:=by
 have base:∀ (c:Cell),(∀ b' v i o,c ≠ .ptr b' v i o) -> (∀ l,c ≠ .iptr l) -> (∀ e l,c ≠ .slx e l) -> (XB h n c).map Cell.c = PA x -> (XB (h.set b K) n c).map Cell.c = PA x /\ EC (h.set b K) n c = EC h n c /\ b ∉ EC h n c:=fun c _ _ _ hc=>by
  simp only [AA] at hc
  obtain ⟨y,hy,rfl⟩:=hc
  obtain ⟨a1,a2,a3⟩:=zK (K:=K) hk0 h0 n c y hy
  exact ⟨by rw [a1];rfl,a2,a3⟩
 cases c with
 | iptr l=>exact ⟨hc,by cases n <;> rfl,by cases n <;> simp [DC,EC]⟩
 | slx e l=>exact ⟨hc,by cases n <;> rfl,by cases n <;> simp [DC,EC]⟩
 | ptr b' ver i off =>
  simp only [jC] at hc
  have hne:b ≠ b':=by
   rintro rfl
   simp [hk0,hl] at hc
  simp only [jC,DC]
  rw [List.getElem?_set_ne hne]
  cases hk:h[b']? with
  | none=>simp [hk] at hc
  | some k =>
   simp only [hk] at hc ⊢
   split at hc
   ·rename_i hv
    rw [if_pos hv]
    cases hi:k.els[i]? with
    | none=>simp [hi] at hc
    | some r =>
     simp only [hi,AA] at hc ⊢
     obtain ⟨l,hm,rfl⟩:=hc
     have cell:∀ c ∈ r.drop off,XB (h.set b K) n c = XB h n c /\ EC (h.set b K) n c = EC h n c /\ b ∉ EC h n c:=fun c hcr=>by
      obtain ⟨y,hy⟩:=EE hm c hcr
      obtain ⟨a1,a2,a3⟩:=zK (K:=K) hk0 h0 n c y hy
      exact ⟨by rw [a1,hy],a2,a3⟩
     refine ⟨⟨l,by rw [ZD _ (fun c hcr=>(cell c hcr).1),hm],rfl⟩,?_,?_⟩
     ·congr 1
      congr 1
      exact wA (fun c hcr=>(cell c hcr).2.1)
     ·intro hm'
      rcases List.mem_cons.1 hm' with e | hm'
      ·exact hne e
      ·obtain ⟨l2,hl2,hm3⟩:=List.mem_flatten.1 hm'
       obtain ⟨c,hcr,rfl⟩:=yA.1 hl2
       exact (cell c hcr).2.2 hm3
   ·cases hc
 | c y=>exact base (.c y) (by simp) (by simp) (by simp) hc
 | own b' v=>exact base (.own b' v) (by simp) (by simp) (by simp) hc
 | fn f l=>exact base (.fn f l) (by simp) (by simp) (by simp) hc
 | mfn f l=>exact base (.mfn f l) (by simp) (by simp) (by simp) hc
 | junk=>exact base .junk (by simp) (by simp) (by simp) hc
theorem dT {b:Nat} {k0 K:Blk} (hk0:h[b]? = PA k0) (h0:k0.e = 0) (hl:k0.els = []) (n:Nat) {l l':List Cell} (hc:l.mapM (jC h n) = PA l'):l.mapM (jC (h.set b K) n) = PA l' /\ (l.map (DC (h.set b K) n)).flatten = (l.map (DC h n)).flatten /\ b ∉ (l.map (DC h n)).flatten:=by
 have cell:∀ c ∈ l,jC (h.set b K) n c = jC h n c /\ DC (h.set b K) n c = DC h n c /\ b ∉ DC h n c:=fun c hcr=>by
  obtain ⟨y,hy⟩:=EE hc c hcr
  obtain ⟨a1,a2,a3⟩:=oL (K:=K) hk0 h0 hl n c y hy
  exact ⟨by rw [a1,hy],a2,a3⟩
 refine ⟨by rw [ZD _ (fun c hcr=>(cell c hcr).1),hc],?_,?_⟩
 ·congr 1
  exact wA (fun c hcr=>(cell c hcr).2.1)
 ·intro hm'
  obtain ⟨l2,hl2,hm3⟩:=List.mem_flatten.1 hm'
  obtain ⟨c,hcr,rfl⟩:=yA.1 hl2
  exact (cell c hcr).2.2 hm3
theorem closeAV_set {b:Nat} {k0 K:Blk} (hk0:h[b]? = PA k0) (h0:k0.e = 0) (hl:k0.els = []) (n:Nat) (c x:AV) (hc:VB h n c = PA x):VB (h.set b K) n c = PA x /\ kC (h.set b K) n c = kC h n c /\ b ∉ kC h n c:=by
 cases c with
 | one c =>
  simp only [VB,AA] at hc
  obtain ⟨y,hy,rfl⟩:=hc
  have base:jC h n c = PA y -> (∀ f l,c ≠ .fn f l) -> yE h n c = jC h n c -> (yE (h.set b K) n c = jC (h.set b K) n c) -> fJ h n c = DC h n c -> fJ (h.set b K) n c = DC (h.set b K) n c ->
    VB (h.set b K) n (.one c) = PA (.one y) /\ kC (h.set b K) n (.one c) = kC h n (.one c) /\ b ∉ kC h n (.one c):=fun h1 _ h2 h3 h4 h5=>by
   obtain ⟨a1,a2,a3⟩:=oL (K:=K) hk0 h0 hl n c y h1
   simp only [VB,kC,h3,h4,h5,a1,a2,Option.map_some]
   exact ⟨trivial,trivial,a3⟩
  cases c with
  | fn f caps =>
   simp only [yE,AA] at hy
   obtain ⟨cs,hcs,rfl⟩:=hy
   obtain ⟨a1,a2,a3⟩:=dT (K:=K) hk0 h0 hl n hcs
   simp only [VB,yE,kC,fJ,a1,a2,Option.map_some]
   exact ⟨trivial,trivial,a3⟩
  | c z=>exact base hy (by simp) rfl rfl rfl rfl
  | own b' v=>exact base hy (by simp) rfl rfl rfl rfl
  | ptr b' v i o=>exact base hy (by simp) rfl rfl rfl rfl
  | iptr l=>exact base hy (by simp) rfl rfl rfl rfl
  | slx e l=>exact base hy (by simp) rfl rfl rfl rfl
  | mfn f l=>exact base hy (by simp) rfl rfl rfl rfl
  | junk=>exact base hy (by simp) rfl rfl rfl rfl
 | agg l =>
  simp only [VB,AA] at hc
  obtain ⟨cs,hcs,rfl⟩:=hc
  obtain ⟨a1,a2,a3⟩:=dT (K:=K) hk0 h0 hl n hcs
  simp only [VB,kC,a1,a2,Option.map_some]
  exact ⟨trivial,trivial,a3⟩
 | tup l=>simp [VB] at hc
 | junk=>simp [VB] at hc
theorem args_set {b:Nat} {k0 K:Blk} (hk0:h[b]? = PA k0) (h0:k0.e = 0) (hl:k0.els = []) (n:Nat) {l l':List AV} (hc:l.mapM (VB h n) = PA l'):l.mapM (VB (h.set b K) n) = PA l' /\ (l.map (kC (h.set b K) n)).flatten = (l.map (kC h n)).flatten /\ b ∉ (l.map (kC h n)).flatten:=by
 have cell:∀ c ∈ l,VB (h.set b K) n c = VB h n c /\ kC (h.set b K) n c = kC h n c /\ b ∉ kC h n c:=fun c hcr=>by
  obtain ⟨y,hy⟩:=EE hc c hcr
  obtain ⟨a1,a2,a3⟩:=closeAV_set (K:=K) hk0 h0 hl n c y hy
  exact ⟨by rw [a1,hy],a2,a3⟩
 refine ⟨by rw [ZD _ (fun c hcr=>(cell c hcr).1),hc],?_,?_⟩
 ·congr 1
  exact wA (fun c hcr=>(cell c hcr).2.1)
 ·intro hm'
  obtain ⟨l2,hl2,hm3⟩:=List.mem_flatten.1 hm'
  obtain ⟨c,hcr,rfl⟩:=yA.1 hl2
  exact (cell c hcr).2.2 hm3
theorem IQ {ids:List Nat} {b:Nat} {K:Blk} (hb:b ∉ ids):freeze ids (h.set b K) = (freeze ids h).set b K:=by
 apply List.ext_getElem?
 intro i
 rw [BD,List.getElem?_set,List.getElem?_set,BD]
 have hc:ids.contains b = TA:=by simpa using hb
 by_cases e:b = i
 ·subst e
  simp only [if_true,hc]
  by_cases hlt:b < h.length
  ·simp [hlt,freeze]
  ·simp [hlt,freeze]
 ·simp only [if_neg e]
theorem vM {ids:List Nat} {b:Nat} (hp:mD h = PA b) (hb:b ∉ ids):mD (freeze ids h) = PA b:=by
 obtain ⟨k,h1,h2,h3⟩:=BF hp
 have hc:ids.contains b = TA:=by simpa using hb
 refine uM (k:=k) (by rw [BD,h1];simp only [Option.map_some,hc,IA,if_false]) h2 (fun i k' hi hk'=>?_)
 rw [BD] at hk'
 cases hq:h[i]? with
 | none=>simp [hq] at hk'
 | some q =>
  simp only [hq,Option.map_some,BA] at hk'
  intro hph
  by_cases hci:ids.contains i = SA
  ·rw [if_pos hci] at hk'
   rw [<- hk'] at hph
   exact Bool.noConfusion hph.2.2.1
  ·rw [if_neg hci] at hk'
   subst hk'
   exact h3 i q hi hq hph
theorem tE {ks:List Blk} {b:Nat} (hp:mD h = PA b):mD (h ++ ks) = PA b:=by
 obtain ⟨k,h1,h2,h3⟩:=BF hp
 have hlt:=(dA.1 h1).1
 exact uM (k:=k) (by rw [List.getElem?_append_left hlt];exact h1) h2 (fun i k' hi hk'=>h3 i k' hi (by rw [List.getElem?_append_left (by omega)] at hk';exact hk'))
theorem phIdx_set {b b':Nat} {K:Blk} (hp:mD h = PA b) (hne:b ≠ b') (hK:K.e ≠ 0):mD (h.set b' K) = PA b:=by
 obtain ⟨k,h1,h2,h3⟩:=BF hp
 refine uM (k:=k) (by rw [List.getElem?_set_ne (fun e=>hne e.symm)];exact h1) h2 (fun i k' hi hk'=>?_)
 rw [List.getElem?_set] at hk'
 split at hk'
 ·split at hk'
  ·simp only [BA] at hk';subst hk';exact fun hph=>hK hph.1
  ·cases hk'
 ·exact h3 i k' hi hk'
theorem pureRes_set {ids:List Nat} {b:Nat} {K:Blk} {r:Ret} (hp:mD h = PA b) (hb:b ∉ ids):mD (CD h ids r).2 = PA b /\ CD (h.set b K) ids r = ((CD h ids r).1,(CD h ids r).2.set b K):=by
 obtain ⟨k,h1,_,_⟩:=BF hp
 have hlt:=(dA.1 h1).1
 cases r with
 | ret av =>
  simp only [CD]
  split
  ·exact ⟨hp,rfl⟩
  ·exact ⟨vM hp hb,by rw [IQ hb]⟩
 | fresh ty e l nn =>
  simp only [CD]
  refine ⟨tE (vM hp hb),?_⟩
  rw [IQ hb,List.length_set,List.set_append_left _ _ (by simpa [freeze] using hlt)]
theorem OV.fill_up {o:CO} {av:AV} {b:Nat} (hc:HE opn o.op = .pure \/ HE opn o.op = .read \/ HE opn o.op = .alloc \/ HE opn o.op = .app) (hp:mD h = PA b) (hv:OV P opn o t h av h1) :
  mD h1 = PA b /\ ∀ K,OV P opn o t (h.set b K) av (h1.set b K):=by
 obtain ⟨k0,hk0,hph,_⟩:=BF hp
 have h0:=hph.1
 have hl:=hph.2.2.2.2
 have hlt:=(dA.1 hk0).1
 have ev:∀ K x,(⟨t,h.set b K⟩:St).ev x = (⟨t,h⟩:St).ev x:=fun K x=>DJ t _ h x
 have key:∀ {av h1},XH P opn t h o.op av h1 -> mD h1 = PA b /\ ∀ K,XH P opn t (h.set b K) o.op av (h1.set b K):=fun {av h1} hv=>by
  cases ho:o.op with
  | callf f args =>
   rw [ho] at hv hc
   obtain ⟨g,as,hca,⟨cas,r,hm,hpc,he⟩ | ⟨hw,_⟩ | ⟨hw,_⟩⟩:=hv
   ·have hset:=fun K=>args_set (K:=K) hk0 h0 hl 3 hm
    have hbn:=(hset k0).2.2
    have hr:=fun K=>pureRes_set (K:=K) (r:=r) hp hbn
    have e1:h1 = (CD h (as.map (kC h 3)).flatten r).2:=by rw [<- he]
    have e2:av = (CD h (as.map (kC h 3)).flatten r).1:=by rw [<- he]
    refine ⟨by rw [e1];exact (hr k0).1,fun K=>⟨g,as,by rw [<- hca];exact WR,.inl ⟨cas,r,(hset K).1,hpc,?_⟩⟩⟩
    rw [(hset K).2.1,(hr K).2,<- e1,<- e2]
   ·rw [GE,if_pos hw] at hc
    rcases hc with hc | hc | hc | hc <;> cases hc
   ·rw [GE,if_pos hw] at hc
    split at hc <;> rcases hc with hc | hc | hc | hc <;> cases hc
  | new ty zs =>
   rw [ho] at hv
   simp only [XH,cstep,BA,MA] at hv ⊢
   obtain ⟨rfl,rfl⟩:=hv
   exact ⟨tE hp,fun K=>⟨by rw [List.length_set],by rw [List.set_append_left _ _ hlt]⟩⟩
  | box ty x =>
   rw [ho] at hv
   simp only [XH,cstep,AA,MA] at hv ⊢
   obtain ⟨cs,hcs,rfl,rfl⟩:=hv
   exact ⟨tE hp,fun K=>⟨cs,by rw [ev];exact hcs,by rw [List.length_set],by rw [List.set_append_left _ _ hlt]⟩⟩
  | mkrow ty e ps =>
   rw [ho] at hv
   simp only [XH,cstep,AA,MA] at hv ⊢
   obtain ⟨cs,hcs,rfl,rfl⟩:=hv
   exact ⟨tE hp,fun K=>⟨cs,by simp only [ev K];exact hcs,by rw [List.length_set],by rw [List.set_append_left _ _ hlt]⟩⟩
  | make ty e b' zs l c =>
   rw [ho] at hv
   simp only [XH,cstep] at hv ⊢
   simp only [ev]
   split at hv
   ·split at hv
    ·rename_i hcnd
     simp only [BA,MA] at hv
     obtain ⟨rfl,rfl⟩:=hv
     refine ⟨tE hp,fun K=>?_⟩
     rw [if_pos hcnd,List.length_set,List.set_append_left _ _ hlt]
    ·cases hv
   ·cases hv
  | append ty e b' x y =>
   rw [ho] at hv hc
   have he:e ≠ 0:=fun e0=>by
    simp only [HE,e0,if_true] at hc
    rcases hc with hc | hc | hc | hc <;> cases hc
   simp only [XH,cstep,CA] at hv ⊢
   simp only [ev]
   obtain ⟨ys,hys,hv⟩:=hv
   have hys':=fun K=>TS (K:=K) hk0 h0 he hys
   split at hv
   ·rename_i bb ver hev
    split at hv
    ·rename_i k hk
     split at hv
     ·rename_i hcnd
      simp only [BA,MA] at hv
      obtain ⟨rfl,rfl⟩:=hv
      have hne:b ≠ bb:=by rintro rfl;rw [hk0] at hk;cases hk;omega
      refine ⟨phIdx_set hp hne (show k.e ≠ 0 by omega),fun K=>⟨ys,hys' K,?_⟩⟩
      rw [List.getElem?_set_ne hne,hk]
      simp only
      rw [if_pos hcnd,List.set_comm _ _ hne]
     ·cases hv
    ·cases hv
   ·rename_i hev
    split at hv
    ·rename_i hcnd
     simp only [BA,MA] at hv
     obtain ⟨rfl,rfl⟩:=hv
     refine ⟨tE hp,fun K=>⟨ys,hys' K,?_⟩⟩
     rw [if_pos hcnd,List.length_set,List.set_append_left _ _ hlt]
    ·cases hv
   ·rename_i e' l hev
    split at hv
    ·rename_i hcnd
     simp only [BA,MA] at hv
     obtain ⟨rfl,rfl⟩:=hv
     refine ⟨tE hp,fun K=>⟨ys,hys' K,?_⟩⟩
     rw [if_pos hcnd,List.length_set,List.set_append_left _ _ hlt]
    ·cases hv
   ·cases hv
  | isnil f n x =>
   rw [ho] at hv
   simp only [XH,cstep,AA,MA] at hv ⊢
   obtain ⟨r,hr,rfl,rfl⟩:=hv
   exact ⟨hp,fun K=>⟨r,by rw [ev];exact isNilAV_set hk0 h0 hr,rfl,rfl⟩⟩
  | load n ag x =>
   rw [ho] at hv
   simp only [XH,cstep,CA,AA,MA] at hv ⊢
   obtain ⟨cs,hr,v,hv1,rfl,rfl⟩:=hv
   exact ⟨hp,fun K=>⟨cs,by rw [ev];exact readN_set hk0 hl hr,v,hv1,rfl,rfl⟩⟩
  | bstr x =>
   rw [ho] at hv
   simp only [XH,cstep,CA,AA,MA] at hv ⊢
   obtain ⟨cs,hr,v,hv1,rfl,rfl⟩:=hv
   exact ⟨hp,fun K=>⟨cs,by rw [ev];exact TS hk0 h0 (by decide) hr,v,hv1,rfl,rfl⟩⟩
  | len s x =>
   rw [ho] at hv
   simp only [XH,cstep,AA,MA] at hv ⊢
   obtain ⟨r,hr,rfl,rfl⟩:=hv
   exact ⟨hp,fun K=>⟨r,by rw [ev];exact lenAV_set hk0 h0 hr,rfl,rfl⟩⟩
  | faddr o' x =>
   rw [ho] at hv
   simp only [XH,cstep] at hv ⊢
   simp only [ev]
   split at hv
   ·rename_i bb ver i off hev
    cases hk:h[bb]? with
    | none=>simp [hk] at hv
    | some k =>
     simp only [hk] at hv
     split at hv
     ·rename_i hcnd
      simp only [BA,MA] at hv
      obtain ⟨rfl,rfl⟩:=hv
      have hne:b ≠ bb:=by rintro rfl;rw [hk0] at hk;cases hk;omega
      refine ⟨hp,fun K=>?_⟩
      rw [List.getElem?_set_ne hne,hk]
      simp only
      rw [if_pos hcnd]
     ·cases hv
   ·simp only [BA,MA] at hv
    obtain ⟨rfl,rfl⟩:=hv
    exact ⟨hp,fun K=>rfl⟩
   ·cases hv
  | iaddr e ar x y =>
   rw [ho] at hv
   simp only [XH,cstep] at hv ⊢
   simp only [ev]
   cases hi:((⟨t,h⟩:St).ev y).int? with
   | none=>simp [hi] at hv
   | some q =>
    simp only [hi] at hv ⊢
    split at hv
    ·rename_i bb ver hev
     cases hk:h[bb]? with
     | none=>simp [hk] at hv
     | some k =>
      simp only [hk] at hv
      split at hv
      ·rename_i hcnd
       simp only [BA,MA] at hv
       obtain ⟨rfl,rfl⟩:=hv
       have hne:b ≠ bb:=by
        rintro rfl
        rw [hk0] at hk
        cases hk
        have:=hcnd.2.2.2
        rw [hl] at this
        simp at this
        omega
       refine ⟨hp,fun K=>?_⟩
       rw [List.getElem?_set_ne hne,hk]
       simp only
       rw [if_pos hcnd]
      ·cases hv
    ·rename_i e' l hev
     split at hv
     ·rename_i hcnd
      cases hq:l[q.2.toNat]? with
      | none=>simp [hq] at hv
      | some r =>
       simp only [hq,BA,MA] at hv
       obtain ⟨rfl,rfl⟩:=hv
       exact ⟨hp,fun K=>by rw [if_pos hcnd]⟩
     ·cases hv
    ·rename_i e' l hev
     split at hv
     ·rename_i hcnd
      cases hq:l[q.2.toNat]? with
      | none=>simp [hq] at hv
      | some r =>
       simp only [hq,BA,MA] at hv
       obtain ⟨rfl,rfl⟩:=hv
       exact ⟨hp,fun K=>by rw [if_pos hcnd]⟩
     ·cases hv
    ·rename_i n bb ver i' off hev
     cases hk:h[bb]? with
     | none=>simp [hk] at hv
     | some k =>
      simp only [hk] at hv
      split at hv
      ·rename_i hcnd
       simp only [BA,MA] at hv
       obtain ⟨rfl,rfl⟩:=hv
       have hne:b ≠ bb:=by rintro rfl;rw [hk0] at hk;cases hk;omega
       refine ⟨hp,fun K=>?_⟩
       rw [List.getElem?_set_ne hne,hk]
       simp only
       rw [if_pos hcnd]
      ·cases hv
    ·rename_i n l hev
     split at hv
     ·rename_i hcnd
      simp only [BA,MA] at hv
      obtain ⟨rfl,rfl⟩:=hv
      exact ⟨hp,fun K=>by rw [if_pos hcnd]⟩
     ·cases hv
    ·cases hv
  | store n x y=>rw [ho] at hc;simp [HE] at hc
  | slice e x lo hi mx=>rw [ho] at hc;simp [HE] at hc
  | copy e x y=>rw [ho] at hc;simp [HE] at hc
  | fill ty zs=>rw [ho] at hc;simp [HE] at hc
  | _ =>
   rw [ho] at hv
   obtain ⟨e,hk⟩:=yS (opn:=opn) (by rfl) hv
   exact ⟨by rw [e];exact hp,fun K=>by rw [e];exact hk _⟩
 unfold OV at hv ⊢
 cases hg:o.guard with
 | none=>rw [hg] at hv;exact key hv
 | some p =>
  rw [hg] at hv
  obtain ⟨g,h1',h2',h3⟩:=hv
  cases g with
  | true=>exact ⟨(key (h2' rfl)).1,fun K=>⟨SA,h1',fun _=>(key (h2' rfl)).2 K,fun e=>by cases e⟩⟩
  | false =>
   obtain ⟨rfl,rfl⟩:=h3 rfl
   exact ⟨hp,fun K=>⟨TA,h1',(fun e=>by cases e),fun _=>⟨rfl,rfl⟩⟩⟩
theorem rD.fill_up {b:Nat}:∀ {pre:List CO} {st sp:St},rD P opn pre st sp -> (∀ p ∈ pre,HE opn p.op = .pure \/ HE opn p.op = .read \/ HE opn p.op = .alloc \/ HE opn p.op = .app) -> mD st.h = PA b ->
  mD sp.h = PA b /\ ∀ K,rD P opn pre ⟨st.t,st.h.set b K⟩ ⟨sp.t,sp.h.set b K⟩
 | [],st,sp,hr,_,hp=>by cases hr;exact ⟨hp,fun K=>rfl⟩
 | p :: pre,st,sp,hr0,hx,hp=>by
  obtain ⟨s1,⟨av,h1,hv,rfl⟩,hr⟩:=hr0
  obtain ⟨e1,e2⟩:=OV.fill_up (hx p (by simp)) hp hv
  obtain ⟨e3,e4⟩:=rD.fill_up (st:=⟨VC st.t p.dst av,h1⟩) hr (fun q hq=>hx q (by simp [hq])) e1
  exact ⟨e3,fun K=>⟨_,⟨av,h1.set b K,e2 K,rfl⟩,e4 K⟩⟩
def clsOk:Cls -> Cls -> Bool
 | .pure,_ | _,.pure=>SA
 | .read,.read | .read,.quiet | .quiet,.read | .read,.alloc | .alloc,.read | .app,.read | .read,.fill | .alloc,.fill | .app,.fill=>SA
 | _,_=>TA
def notIn (d:Option Tmp) (l:List Tmp):Bool:=match d with | some x=>!l.contains x | none=>SA
def differ (d e:Option Tmp):Bool:=match d,e with | some x,PA y=>x != y | _,_=>SA
def indep (opn:List FuncId) (p i:CO):Bool :=
 notIn p.dst (names i) && notIn i.dst (names p) && differ p.dst i.dst && clsOk (HE opn p.op) (HE opn i.op)
theorem sQ {d:Option Tmp} {l:List Tmp} (h:notIn d l = SA):∀ x,d = PA x -> x ∉ l:=fun x hx=>by
 subst hx;simpa [notIn] using h
theorem differ_spec {d e:Option Tmp} (h:differ d e = SA):∀ x,d = PA x -> e ≠ PA x:=fun x hx he=>by
 subst hx;subst he;simp [differ] at h
theorem rD.move {pre:List CO} {i:CO} {st sp sq:St} (hr:rD P opn pre st sp) (hi:OD P opn i sp sq) (hind:∀ p ∈ pre,indep opn p i = SA) (hsc:∀ x ∈ gC i.op,mH st.h (st.ev x)) (hph:HE opn i.op = .fill -> ∃ b,mD st.h = PA b) :
  ∃ s1,OD P opn i st s1 /\ rD P opn pre s1 sq:=by
 have hspec:∀ p ∈ pre,(∀ x,p.dst = PA x -> x ∉ names i) /\ (∀ x,i.dst = PA x -> x ∉ names p /\ p.dst ≠ PA x) /\ clsOk (HE opn p.op) (HE opn i.op) = SA:=fun p hp=>by
  have:=hind p hp
  simp only [indep,JA] at this
  exact ⟨sQ this.1.1.1,fun x hx=>⟨sQ this.1.1.2 x hx,fun e=>differ_spec this.1.2 x e hx⟩,this.2⟩
 obtain ⟨av,h',hv,rfl⟩:=hi
 have hag:∀ x ∈ names i,sp.t[x]? = st.t[x]?:=fun x hx=>hr.slots x (fun p hp e=>(hspec p hp).1 x e hx)
 have hv':OV P opn i st.t sp.h av h':=OV.agree hag hv
 have hfr:=hr.frame (d:=i.dst) (v:=av) (fun p hp=>(hspec p hp).2.1)
 cases hc:HE opn i.op with
 | pure =>
  obtain ⟨rfl,hk⟩:=OV.pure hc hv'
  exact ⟨_,⟨av,st.h,hk st.h,rfl⟩,hfr⟩
 | read =>
  have hS:sR st.h sp.h:=hr.bmp (fun p hp=>⟨fun e=>(by have:=(hspec p hp).2.2;rw [e,hc] at this;cases this),fun e=>(by have:=(hspec p hp).2.2;rw [e,hc] at this;cases this)⟩)
  obtain ⟨rfl,hk⟩:=OV.read_down hc hS h' hsc hv'
  exact ⟨_,⟨av,st.h,hk,rfl⟩,hfr⟩
 | alloc =>
  have hcl:∀ p ∈ pre,HE opn p.op = .pure \/ HE opn p.op = .read:=fun p hp=>by
   have:=(hspec p hp).2.2
   rw [hc] at this
   cases hp':HE opn p.op with
   | pure=>exact .inl rfl
   | read=>exact .inr rfl
   | _=>rw [hp'] at this;cases this
  have he:=(hr.heap (h':=st.h) (.inr ⟨hcl,SJ.refl _⟩)).1
  rw [he] at hv' hfr
  have hS:=OV.alloc (.inl hc) hv'
  have:=(rD.heap (h':=h') hfr (.inr ⟨hcl,hS⟩)).2
  exact ⟨_,⟨av,h',hv',rfl⟩,this⟩
 | quiet =>
  have hcl:∀ p ∈ pre,HE opn p.op = .pure \/ HE opn p.op = .read:=fun p hp=>by
   have:=(hspec p hp).2.2
   rw [hc] at this
   cases hp':HE opn p.op with
   | pure=>exact .inl rfl
   | read=>exact .inr rfl
   | _=>rw [hp'] at this;cases this
  have he:=(hr.heap (h':=st.h) (.inr ⟨hcl,SJ.refl _⟩)).1
  rw [he] at hv' hfr
  have hS:=OV.alloc (.inr hc) hv'
  have:=(rD.heap (h':=h') hfr (.inr ⟨hcl,hS⟩)).2
  exact ⟨_,⟨av,h',hv',rfl⟩,this⟩
 | write =>
  have hcl:∀ p ∈ pre,HE opn p.op = .pure:=fun p hp=>by
   have:=(hspec p hp).2.2
   rw [hc] at this
   cases hp':HE opn p.op with
   | pure=>rfl
   | _=>rw [hp'] at this;cases this
  have he:=(hr.heap (h':=st.h) (.inl hcl)).1
  rw [he] at hv' hfr
  have:=(rD.heap (h':=h') hfr (.inl hcl)).2
  exact ⟨_,⟨av,h',hv',rfl⟩,this⟩
 | app =>
  have hcl:∀ p ∈ pre,HE opn p.op = .pure:=fun p hp=>by
   have:=(hspec p hp).2.2
   rw [hc] at this
   cases hp':HE opn p.op with
   | pure=>rfl
   | _=>rw [hp'] at this;cases this
  have he:=(hr.heap (h':=st.h) (.inl hcl)).1
  rw [he] at hv' hfr
  have:=(rD.heap (h':=h') hfr (.inl hcl)).2
  exact ⟨_,⟨av,h',hv',rfl⟩,this⟩
 | fill =>
  obtain ⟨b,hb⟩:=hph hc
  have hcl:∀ p ∈ pre,HE opn p.op = .pure \/ HE opn p.op = .read \/ HE opn p.op = .alloc \/ HE opn p.op = .app:=fun p hp=>by
   have:=(hspec p hp).2.2
   rw [hc] at this
   cases hp':HE opn p.op with
   | pure=>exact .inl rfl
   | read=>exact .inr (.inl rfl)
   | alloc=>exact .inr (.inr (.inl rfl))
   | app=>exact .inr (.inr (.inr rfl))
   | _=>rw [hp'] at this;cases this
  obtain ⟨hb',hset⟩:=rD.fill_up hfr hcl hb
  have fillOp:∀ {h:List Blk} {av h1},mD h = PA b -> XH P opn st.t h i.op av h1 -> ∃ K,h1 = h.set b K /\ ∀ h2,mD h2 = PA b -> XH P opn st.t h2 i.op av (h2.set b K):=fun {h av h1} hpb hv=>by
   cases ho:i.op with
   | fill ty zs =>
    rw [ho] at hv
    simp only [XH,cstep,hpb,Option.map_some,BA,MA] at hv
    obtain ⟨rfl,rfl⟩:=hv
    exact ⟨_,rfl,fun h2 hp2=>by simp only [XH,cstep,hp2,Option.map_some]⟩
   | append ty e b' x y=>rw [ho] at hc;simp only [HE] at hc;split at hc <;> cases hc
   | callf f args =>
   rw [ho,GE] at hc
   split at hc
   ·cases hc
   ·split at hc <;> cases hc
   | _=>rw [ho] at hc;simp [HE] at hc
  have hall:∃ s1h,OV P opn i st.t st.h av s1h /\ rD P opn pre ⟨VC st.t i.dst av,s1h⟩ ⟨VC sp.t i.dst av,h'⟩:=by
   unfold OV at hv' ⊢
   cases hg:i.guard with
   | none =>
    rw [hg] at hv'
    obtain ⟨K,rfl,h2⟩:=fillOp hb' hv'
    exact ⟨st.h.set b K,h2 st.h hb,hset K⟩
   | some q =>
    rw [hg] at hv'
    obtain ⟨g,h1',h2',h3⟩:=hv'
    cases g with
    | true =>
     obtain ⟨K,rfl,h2⟩:=fillOp hb' (h2' rfl)
     exact ⟨st.h.set b K,⟨SA,h1',fun _=>h2 st.h hb,fun e=>by cases e⟩,hset K⟩
    | false =>
     obtain ⟨rfl,rfl⟩:=h3 rfl
     exact ⟨st.h,⟨TA,h1',(fun e=>by cases e),fun _=>⟨rfl,rfl⟩⟩,hfr⟩
  obtain ⟨s1h,a1,a2⟩:=hall
  exact ⟨_,⟨av,s1h,a1,rfl⟩,a2⟩
end Go.Am
namespace Go.Am
open Go.RowKit
variable {GL:Glb}
variable {P:Program} {opn:List FuncId} {w w':World} {M0:Nat -> Prop} {h h0 h1 h2 h':List Blk} {hd hd':Nat -> Value} {B0:Nat} {bad bad':Nat -> Prop} {X:Ctx} {st st':St} {a:Act} {t t' t2:List AV}
 {ops:Array Oper} {cos:List CO} {rd:Option Nat} {n:Nat} {Q:Exit -> Act -> World -> Prop}
theorem cop_notFill {o:Oper} {ty:TypeId} {zs:List Value} (hc:cop P o = PA (.fill ty zs)):False:=by
 obtain ⟨dst,op,type,pos,after,guard⟩:=o
 cases op with
 | call cc =>
  obtain ⟨callee,cargs,ct⟩:=cc
  cases callee with
  | value f'=>simp [cop] at hc
  | invoke r m=>simp [cop] at hc
  | builtin b =>
   cases b <;> simp only [cop,reduceCtorEq] at hc <;> (repeat' split at hc) <;> simp [CA,AA] at hc
 | makeFunc fn first caps =>
  cases fn <;> simp only [cop,reduceCtorEq] at hc
  repeat' split at hc
  all_goals simp at hc
 | field s x i =>
  simp only [cop] at hc
  split at hc
  ·simp only [CA] at hc
   obtain ⟨fd,_,hc⟩:=hc
   repeat' split at hc
   all_goals simp at hc
  ·cases hc
 | binOp op t x y yt =>
  cases op <;> simp only [cop,JM,BA,reduceCtorEq] at hc <;> (repeat' split at hc) <;> simp at hc
 | _ =>
  simp only [cop,reduceCtorEq,BA] at hc <;> (repeat' split at hc) <;> simp [CA,AA] at hc
theorem XI {ops:Array Oper} {o:Oper} {co:CO} (h:YI P ops o co):HE opn co.op ≠ .fill:=fun e=>by
 cases ho:co.op with
 | fill ty zs=>have h2:=h.2.1;rw [ho] at h2;exact cop_notFill h2
 | callf f args =>
  rw [ho,GE] at e
  split at e
  ·cases e
  ·split at e <;> cases e
 | append ty e' b x y=>rw [ho] at e;simp only [HE] at e;split at e <;> cases e
 | _=>rw [ho] at e;simp [HE] at e
def pE (P:Program) (ops:Array Oper) (cos:List CO):Prop :=
 cos.length = ops.size /\ ∀ (i:Nat) (o:Oper) (co:CO),ops[i]? = PA o -> cos[i]? = PA co -> YI P ops o co
theorem Rel.drawn (r:Rel X st hd a w) (k:Nat):Rel X st hd a { w with drawn:=k }:=by
 have hg:w.grownBy { w with drawn:=k } QA:=⟨rfl,rfl,rfl,EA _,fun _ _ _=>rfl⟩
 obtain ⟨H',T⟩:=r.heap.same hg
 exact r.step (dst:=QA) (av:=.junk) (v:=undef) hg lD H' T (.junk _)
theorem rD.append:∀ {l1 l2:List CO} {s s':St},rD P opn (l1 ++ l2) s s' -> ∃ sm,rD P opn l1 s sm /\ rD P opn l2 sm s'
 | [],l2,s,s',h=>⟨s,rfl,h⟩
 | o :: l1,l2,s,s',h=>by
  obtain ⟨s1,h1,h2⟩:=h
  obtain ⟨sm,h3,h4⟩:=rD.append h2
  exact ⟨sm,⟨s1,h1,h3⟩,h4⟩
theorem rD.join:∀ {l1 l2:List CO} {s sm s':St},rD P opn l1 s sm -> rD P opn l2 sm s' -> rD P opn (l1 ++ l2) s s'
 | [],l2,s,sm,s',h1,h2=>by cases h1;exact h2
 | o :: l1,l2,s,sm,s',h1,h2=>by
  obtain ⟨s1,h1,h3⟩:=h1
  exact ⟨s1,h1,rD.join h3 h2⟩
theorem opsIn_ok (hc:pE P ops cos) (hK:∀ hd' a' w',Rel X st' hd' a' w' -> Q .normal a' w'):∀ (is:List Nat) (st:St) (hd:Nat -> Value) (a:Act) (w:World),
  Rel X st hd a w -> (∀ i ∈ is,i < ops.size) -> rD P opn (is.filterMap (cos[·]?)) st st' -> wpOpsIn (Wd rd) n P ops Q is a w
 | [],st,hd,a,w,r,_,hr=>by cases hr;exact hK hd a w r
 | i :: is,st,hd,a,w,r,hi,hr=>by
  rw [wpOpsIn_cons]
  have hlt:i < ops.size:=hi i (by simp)
  have ho:ops[i]? = PA ops[i]:=by simp [hlt]
  have hco:cos[i]? = PA (cos[i]'(by rw [hc.1];exact hlt)):=by simp [hc.1,hlt]
  rw [List.filterMap_cons,hco] at hr
  obtain ⟨s1,h1,h2⟩:=hr
  exact od_ok r ho (hc.2 i _ _ ho hco) h1 (fun hd' a' w' r'=>opsIn_ok hc hK is s1 hd' a' w' r' (fun j hj=>hi j (by simp [hj])) h2)
theorem yF:∀ (l:List CO) (m:Nat),l.length = m -> (List.range m).filterMap (l[·]?) = l
 | [],m,hm=>by subst hm;rfl
 | x :: l,m,hm=>by
  subst hm
  rw [oA,List.range_succ_eq_map,List.filterMap_cons]
  simp only [List.getElem?_cons_zero,List.filterMap_map]
  congr 1
  exact yF l _ rfl
theorem region_ok {id:Nat} (hc:pE P ops cos) (r:Rel X st hd a w) (hr:rD P opn cos st st') (hK:∀ hd' a' w',Rel X st' hd' a' w' -> Q .normal a' w') :
  (Code.region id ops TA).wpIn (Wd rd) n P Q a w :=
 wpIn_region (opsIn_ok hc hK (List.range ops.size) st hd a w r (fun i hi=>zA.1 hi) (by rw [yF cos _ hc.1];exact hr))
def WE (o:Oper):List Nat:=(o.after.toList.filter (Region.binds .any)).map (·.on)
def RG:List Oper -> List (List Nat) -> List (List Nat)
 | [],acc=>acc
 | o :: os,acc=>RG os (acc ++ [((WE o) ++ (WE o).flatMap (fun d=>acc.getD d [])).eraseDups])
def gH (opn:List FuncId) (cos:List CO) (p i:Nat):Bool :=
 match cos[p]?,cos[i]? with
 | some a,PA b=>indep opn a b
 | _,_=>TA
def tS (opn:List FuncId) (ops:Array Oper) (cos:List CO) (A:List (List Nat)):Bool :=
 (List.range ops.size).all fun i =>
  (match ops[i]? with
   | some o=>(WE o).all (fun d=>Nat.blt d i) && (A.getD i []).all fun p=>(WE o).contains p || (WE o).any fun d=>(A.getD d []).contains p
   | none=>SA) &&
  (List.range i).all fun p=>(A.getD i []).contains p || gH opn cos p i
def regionOk (opn:List FuncId) (ops:Array Oper) (cos:List CO):Bool:=tS opn ops cos (RG ops.toList [])
theorem anyIn_ok (hc:pE P ops cos) {A:List (List Nat)} (hA:tS opn ops cos A = SA) (hK:∀ hd' a' w',Rel X st' hd' a' w' -> Q .normal a' w') :
  ∀ (fuel:Nat) (r:List Nat) (listed:Array Bool) (st:St) (hd:Nat -> Value) (a:Act) (w:World),r.length <= fuel -> r.Pairwise (· < ·) -> (∀ i ∈ r,i < ops.size) -> listed.size = ops.size ->
   (∀ i,i < ops.size -> (listed.getD i SA = SA ↔ i ∉ r)) -> (∀ j,j < ops.size -> j ∉ r -> ∀ p ∈ A.getD j [],p ∉ r) ->
   Rel X st hd a w -> rD P opn (r.filterMap (cos[·]?)) st st' -> wpAnyIn (Wd rd) n P .any ops Q fuel listed a w:=by
 have hspec:∀ i o,ops[i]? = PA o -> (∀ d ∈ WE o,d < i) /\ (∀ p ∈ A.getD i [],p ∈ WE o \/ ∃ d ∈ WE o,p ∈ A.getD d []) /\ ∀ p,p < i -> p ∈ A.getD i [] \/ gH opn cos p i = SA:=fun i o ho=>by
  have hlt:i < ops.size:=(Array.getElem?_eq_some_iff.1 ho).1
  have:=List.all_eq_true.1 hA i (zA.2 hlt)
  rw [ho] at this
  simp only [JA,List.all_eq_true,Bool.or_eq_true,List.contains_iff_mem,List.any_eq_true,zA] at this
  exact ⟨fun d hd=>by simpa using this.1.1 d hd,this.1.2,this.2⟩
 have hgd:∀ (listed:Array Bool) i,i < listed.size -> listed.getD i SA = listed.getD i TA:=fun listed i hi=>by simp [Array.getD,hi]
 have hdeps:∀ o e,e ∈ o.after -> Region.binds .any e = SA -> e.on ∈ WE o:=fun o e he hb =>
  yA.2 ⟨e,List.mem_filter.2 ⟨by simpa using he,hb⟩,rfl⟩
 have done:∀ (r:List Nat) (listed:Array Bool),r.Pairwise (· < ·) -> (∀ i ∈ r,i < ops.size) -> listed.size = ops.size -> (∀ i,i < ops.size -> (listed.getD i SA = SA ↔ i ∉ r)) ->
   Region.ready .any ops listed = [] -> r = []:=fun r listed hp hlt hsz hl hr=>by
  cases r with
  | nil=>rfl
  | cons i r =>
   exfalso
   have hi:i < ops.size:=hlt i (by simp)
   have ho:ops[i]? = PA ops[i]:=by simp [hi]
   have hin:i ∈ Region.ready .any ops listed:=by
    rw [mem_ready]
    refine ⟨?_,_,ho,fun e he hb=>?_⟩
    ·cases hq:listed.getD i SA with
     | false=>rfl
     | true=>exact absurd ((hl i hi).1 hq) (by simp)
    ·have hd:=(hspec i _ ho).1 _ (hdeps _ e he hb)
     have pD:e.on < ops.size:=Nat.lt_trans hd hi
     rw [<- hgd listed _ (by rw [hsz];exact pD)]
     refine (hl _ pD).2 (fun hm=>?_)
     simp only [List.mem_cons] at hm
     rcases hm with he' | hm
     ·omega
     ·have:=List.rel_of_pairwise_cons hp hm
      omega
   rw [hr] at hin
   cases hin
 intro fuel
 induction fuel with
 | zero =>
  intro r listed st hd a w hlen hp hlt hsz hl hdc R hrun
  have:r = []:=List.eq_nil_of_length_eq_zero (Nat.le_zero.1 hlen)
  subst this
  cases hrun
  refine ⟨?_,hK hd a w R⟩
  cases hq:Region.ready .any ops listed with
  | nil=>rfl
  | cons i l =>
   exfalso
   have hin:i ∈ Region.ready .any ops listed:=by rw [hq];simp
   obtain ⟨h0,o,ho,_⟩:=mem_ready.1 hin
   have:=(hl i (Array.getElem?_eq_some_iff.1 ho).1).2 (by simp)
   rw [h0] at this
   cases this
 | succ fuel ih =>
  intro r listed st hd a w hlen hp hlt hsz hl hdc R hrun
  refine ⟨fun hq=>?_,fun i hin=>?_⟩
  ·have:=done r listed hp hlt hsz hl hq
   subst this
   cases hrun
   exact hK hd a w R
  ·obtain ⟨h0,o,ho,hall⟩:=mem_ready.1 hin
   have hi:i < ops.size:=(Array.getElem?_eq_some_iff.1 ho).1
   have hir:i ∈ r:=by
    refine Decidable.byContradiction fun hn=>?_
    have:=(hl i hi).2 hn
    rw [h0] at this
    cases this
   obtain ⟨pre,post,rfl⟩:=List.append_of_mem hir
   have hpp:=List.pairwise_append.1 hp
   have hpre:∀ p ∈ pre,p < i:=fun p hpm=>hpp.2.2 p hpm i (by simp)
   have hpost:∀ p ∈ post,i < p:=fun p hpm=>List.rel_of_pairwise_cons hpp.2.1 hpm
   have hlisted:∀ d ∈ WE o,d ∉ pre ++ i :: post:=fun d hd=>by
    obtain ⟨e,he,rfl⟩:=yA.1 hd
    obtain ⟨he1,he2⟩:=List.mem_filter.1 he
    have hlt':=(hspec i o ho).1 _ hd
    have pD:e.on < ops.size:=Nat.lt_trans hlt' hi
    exact (hl _ pD).1 (by rw [hgd listed _ (by rw [hsz];exact pD)];exact hall e (by simpa using he1) he2)
   have hAi:∀ p ∈ A.getD i [],p ∉ pre ++ i :: post:=fun p hpA=>by
    rcases (hspec i o ho).2.1 p hpA with hd | ⟨d,hd,hpd⟩
    ·exact hlisted p hd
    ·exact hdc d (Nat.lt_trans ((hspec i o ho).1 d hd) hi) (hlisted d hd) p hpd
   have hco:cos[i]? = PA (cos[i]'(by rw [hc.1];exact hi)):=by simp [hc.1,hi]
   generalize hcoi:(cos[i]'(by rw [hc.1];exact hi)) = co at hco
   rw [List.filterMap_append,List.filterMap_cons,hco] at hrun
   obtain ⟨sp,hr1,sq,hr2,hr3⟩:=rD.append hrun
   obtain ⟨s1,ho1,hrest⟩:=rD.move hr1 hr2 (fun c hcm=>by
    obtain ⟨p,hpm,hpc⟩:=List.mem_filterMap.1 hcm
    rcases (hspec i o ho).2.2 p (hpre p hpm) with hA' | hind
    ·exact absurd (by simp [hpm]) (hAi p hA')
    ·unfold gH at hind
     rw [hpc,hco] at hind
     exact hind) (fun x hx=>(R.sees x).scopedV) (fun e=>absurd e (XI (hc.2 i o co ho hco)))
   refine od_ok R ho (hc.2 i o co ho hco) ho1 (fun hd' a' w' R'=>?_)
   refine ih (pre ++ post) (listed.setIfInBounds i SA) s1 hd' a' w' ?_ ?_ ?_ ?_ ?_ ?_ R' ?_
   ·simp only [sA,oA] at hlen ⊢;omega
   ·exact hp.sublist (by simp)
   ·exact fun j hj=>hlt j (by simp only [List.mem_append,List.mem_cons] at hj ⊢;rcases hj with h | h <;> simp [h])
   ·simpa using hsz
   ·intro j hj
    have hni:i ∉ pre ++ post:=fun hm=>by
     rcases List.mem_append.1 hm with hm | hm
     ·have:=hpre i hm;omega
     ·have:=hpost i hm;omega
    by_cases he:i = j
    ·subst he
     refine ⟨fun _=>hni,fun _=>?_⟩
     simp [Array.getD,hsz,hi]
    ·rw [getD_set_ne SA he,hl j hj]
     simp only [List.mem_append,List.mem_cons]
     constructor
     ·intro h1 h2;exact h1 (h2.elim .inl (fun h=>.inr (.inr h)))
     ·intro h1 h2;exact h1 (h2.elim .inl (fun h=>h.elim (fun e=>absurd e.symm he) .inr))
   ·intro j hj hjn p hpA hpm
    have hpm':p ∈ pre ++ i :: post:=by simp only [List.mem_append,List.mem_cons] at hpm ⊢;rcases hpm with h | h <;> simp [h]
    by_cases he:j = i
    ·subst he;exact hAi p hpA hpm'
    ·refine hdc j hj (fun hm=>hjn ?_) p hpA hpm'
     simp only [List.mem_append,List.mem_cons] at hm ⊢
     rcases hm with h | h | h
     ·exact .inl h
     ·exact absurd h he
     ·exact .inr h
   ·rw [List.filterMap_append]
    exact rD.join hrest hr3
theorem vR {id:Nat} (hm:P.follows .mixedOrders = SA) (hc:pE P ops cos) (hA:regionOk opn ops cos = SA) (r:Rel X st hd a w) (hr:rD P opn cos st st') (hK:∀ hd' a' w',Rel X st' hd' a' w' -> Q .normal a' w') :
  (Code.region id ops SA).wpIn (Wd rd) n P Q a w:=by
 refine wpIn_region_any hm (anyIn_ok hc hA hK ops.size (List.range ops.size) _ st hd a _ (by simp) List.pairwise_lt_range (fun i hi=>zA.1 hi) (by simp) (fun i hi=>?_) (fun j hj hjn=>absurd (zA.2 hj) hjn) (r.drawn _) (by rw [yF cos _ hc.1];exact hr))
 have:(Array.replicate ops.size TA).getD i SA = TA:=by simp [Array.getD,hi]
 rw [this]
 simp [hi]
end Go.Am
namespace Go.Am
open Go.RowKit
variable {GL:Glb}
variable {P:Program} {opn:List FuncId} {w w':World} {M0:Nat -> Prop} {h h0 h1 h2 h':List Blk} {hd hd':Nat -> Value} {B0:Nat} {bad bad':Nat -> Prop} {X:Ctx} {st st':St} {a:Act} {t t' t2:List AV}
 {ops:Array Oper} {cos:List CO} {rd:Option Nat} {n:Nat} {Q:Exit -> Act -> World -> Prop}
def vary (c c':COp):Prop :=
 c' = c \/ (∃ e x lo hi mx,c = .slice e x lo hi mx /\ c' = .cutc e x lo hi mx) \/ (∃ ty e ps,c = .mkrow ty e ps /\ c' = .mkrowc e ps) \/ (∃ ty zs,c = .new ty zs /\ c' = .fill ty zs) \/ (∃ ty e by' zs l x,c = .make ty e by' zs l x /\ c' = .makec e by' zs l x) \/ (∃ n ag x,c = .load n ag x /\ c' = .loadc n ag x) \/ (∃ off x,c = .faddr off x /\ c' = .faddrc off x)
theorem cutc_slice {e:Nat} {x:Operand} {lo hi mx:Option Operand} {p:AV × List Blk} (hs:cstep st (.cutc e x lo hi mx) = PA p):cstep st (.slice e x lo hi mx) = PA p:=by
 simp only [cstep,AA] at hs ⊢
 obtain ⟨v,hv,rfl⟩:=hs
 unfold yN at hv
 split at hv
 ·rename_i e' l hev
  split at hv
  ·rename_i he
   rw [hev]
   simp only
   rw [if_pos he]
   cases mx with
   | none =>
    simp only [Option.map_none,CA,AA] at hv ⊢
    obtain ⟨b,hb,a,ha,rfl⟩:=hv
    exact ⟨b,hb,a,ha,rfl⟩
   | some m =>
    simp only [Option.map_some,CA] at hv ⊢
    obtain ⟨mm,hm,b,hb,a,ha,hv⟩:=hv
    split at hv
    ·rename_i hc
     simp only [BA] at hv
     subst hv
     have hc':a = 0 /\ b = mm /\ hi.isSome = SA /\ 0 < b:=⟨hc.1,hc.2.1,by have:=hc.2.2.1;simpa using this,hc.2.2.2⟩
     exact ⟨mm,hm,b,hb,a,ha,by rw [if_pos hc']⟩
    ·cases hv
  ·cases hv
 ·rename_i hev
  rw [hev]
  simp only
  split at hv
  ·rename_i hmx
   have hmx':mx.isNone = SA:=by simpa using hmx
   rw [if_pos hmx']
   simp only [CA,AA] at hv ⊢
   obtain ⟨b,hb,a,ha,rfl⟩:=hv
   exact ⟨b,hb,a,ha,rfl⟩
  ·cases hv
 ·cases hv
theorem loadc_load {n:Nat} {ag:Bool} {x:Operand} {p:AV × List Blk} (hs:cstep st (.loadc n ag x) = PA p):cstep st (.load n ag x) = PA p:=by
 simp only [cstep] at hs ⊢
 split at hs
 ·rename_i l hl
  split at hs
  ·rename_i hn
   rw [hl]
   simp only [ZF]
   rw [if_pos hn]
   exact hs
  ·cases hs
 ·cases hs
theorem faddrc_faddr {off:Nat} {x:Operand} {p:AV × List Blk} (hs:cstep st (.faddrc off x) = PA p):cstep st (.faddr off x) = PA p:=by
 simp only [cstep] at hs ⊢
 split at hs
 ·rename_i l hl
  rw [hl]
  exact hs
 ·cases hs
theorem bJ:∀ {cs:List Cell} {l:List CV},wC cs = PA l -> cs = l.map .c
 | [],l,hh=>by simp [wC] at hh;subst hh;rfl
 | .c x :: r,l,hh=>by
  simp only [wC,AA] at hh
  obtain ⟨l',hl',rfl⟩:=hh
  rw [bJ hl'];rfl
 | .own .. :: r,l,hh=>by simp [wC] at hh
 | .ptr .. :: r,l,hh=>by simp [wC] at hh
 | .iptr .. :: r,l,hh=>by simp [wC] at hh
 | .slx .. :: r,l,hh=>by simp [wC] at hh
 | .fn .. :: r,l,hh=>by simp [wC] at hh
 | .mfn .. :: r,l,hh=>by simp [wC] at hh
 | .junk :: r,l,hh=>by simp [wC] at hh
theorem UN {e:Nat}:∀ (ps:List Operand) (l:List (List CV)),(ps.mapM fun p=>(st.ev p).cells?.bind fun cs=>if cs.length = e then wC cs else QA) = PA l ->
  (ps.mapM fun p=>(st.ev p).cells?.bind fun cs=>if cs.length = e then PA cs else QA) = PA (l.map (·.map .c))
 | [],l,hm=>by simp at hm;subst hm;rfl
 | p :: ps,l,hm=>by
  rw [List.mapM_cons] at hm ⊢
  simp only [Option.bind_eq_bind,Option.pure_def] at hm ⊢
  cases hc:(st.ev p).cells? with
  | none=>simp [hc] at hm
  | some cs =>
   simp only [hc,Option.bind_some] at hm ⊢
   by_cases he:cs.length = e
   ·rw [if_pos he] at hm ⊢
    cases hcl:wC cs with
    | none=>simp [hcl] at hm
    | some r =>
     simp only [hcl,Option.bind_some] at hm
     cases hr:(ps.mapM fun p=>(st.ev p).cells?.bind fun cs=>if cs.length = e then wC cs else QA) with
     | none=>simp [hr] at hm
     | some rs =>
      simp only [hr,Option.bind_some,BA] at hm
      subst hm
      rw [UN ps rs hr]
      simp [bJ hcl]
   ·rw [if_neg he] at hm;simp at hm
theorem gv_mkrowc (H:HR B0 M0 w h hd) (hM:∀ g,M0 g -> g < w.heap.size) {t e:TypeId} {s:Nat} {zs:List Value} (ht:P.underlying t = PA (.slice e)) (hs:rE P e = PA s) (hz:TG P e = PA zs) (hzs:zs.length = s) (hs0:0 < s)
  {l:List (List CV)} {vs:List Value} (hl:(l.map (·.map Cell.c)).length = vs.length) (hh:∀ (i:Nat) (r:List Cell) (v:Value),(l.map (·.map Cell.c))[i]? = PA r -> vs[i]? = PA v -> r.length = s /\ PW (VR w (iB M0 h hd) h hd) r v.cells.toList)
  (hlim:(l.map (·.map Cell.c)).length * s <= 16777216) {parts:Array (Nat × Value)} (hparts:parts.toList = (vs.zipIdx 0).map fun p=>(p.2,p.1)) :
  GV P B0 M0 w h hd (Instr.buildSlice t (l.map (·.map Cell.c)).length parts) (.one (.c (.sl s l))) h:=by
 obtain ⟨z,hzr,hzc⟩:=BK (w:=w) hz
 have hzsz:z.cells.size = s:=by rw [<- hzs,<- hzc];simp
 generalize hrows:l.map (·.map Cell.c) = rows at *
 have hinit:∃ us0:Array Value,us0.size = rows.length * s /\ ((if rows.length * s = 0 then pure #[] else do pure (<- zeroValue e).cells:Sem (Array Value)).run P w = .ok (if rows.length * s = 0 then #[] else z.cells) w) /\
   us0 = (Array.range (rows.length * s)).map ((if rows.length * s = 0 then #[] else z.cells)[· % (if rows.length * s = 0 then #[] else z.cells).size]!):=by
  refine ⟨_,?_,?_,rfl⟩
  ·simp
  ·by_cases h0:rows.length * s = 0 <;> simp [h0,hzr,Result.andThen]
 obtain ⟨us0,hus0,hz0,hus0e⟩:=hinit
 obtain ⟨us',hfill,hpw,hsz'⟩:=OQ (s:=s) rows vs 0 us0 hl hh (by rw [hus0];simp) [] (by simpa using PW.nil)
 have hrun:(Instr.buildSlice t rows.length parts).run P w = .ok (.slice (PA ⟨w.heap.size,0,QA⟩) rows.length rows.length) (w.alloc (.cells us' e)):=by
  have hlim':¬ (rows.length * s > 2 ^ 24):=by omega
  simp only [Instr.buildSlice,Sem.run_bind,run_underlying ht,Result.andThen,lE hs,hlim',if_false,Sem.run_pure]
  rw [hparts]
  by_cases h0:rows.length * s = 0
  ·rw [if_pos h0] at hus0e
   simp only [h0,if_true,Sem.run_bind,Sem.run_pure,Result.andThen] at hus0e ⊢
   rw [<- hus0e,hfill]
   simp [newRow,Result.andThen]
  ·rw [if_neg h0] at hus0e
   simp only [h0,if_false,Sem.run_bind,Sem.run_pure,hzr,Result.andThen]
   rw [<- hus0e,hfill]
   simp [newRow,Result.andThen]
 have hrow:∀ (i:Nat) (r:List Cell),rows[i]? = PA r -> r.length = s:=fun i r hi =>
  (hh i r (vs[i]'(by rw [<- hl];exact (dA.1 hi).1)) hi (aA _)).1
 have hg:w.grownBy (w.alloc (.cells us' e)) QA:=World.grownBy_alloc w _ QA
 obtain ⟨H',T⟩:=H.same hg
 refine ⟨_,_,hd,QA,hrun,hg,lD,H',T,.one _ _ (.c _ _ ?_)⟩
 have hpw':PW (VR w (iB M0 h hd) h hd) rows.flatten us'.toList:=by simpa using hpw
 have hll:rows.length = l.length:=by rw [<- hrows,eA]
 have hrowl:∀ (i:Nat) (r:List CV),l[i]? = PA r -> r.length = s:=fun i r hi=>by
  have:=hrow i (r.map .c) (by rw [<- hrows,List.getElem?_map,hi];rfl)
  simpa using this
 have hflat:rows.flatten = l.flatten.map Cell.c:=by rw [<- hrows,List.map_flatten]
 have hcr:PW (CR (w.alloc (.cells us' e)) (iB M0 h hd)) l.flatten us'.toList:=by
  rw [hflat] at hpw'
  refine ⟨by rw [<- hpw'.1,eA],fun i x v hx hv=>?_⟩
  have:=hpw'.2 i (.c x) v (by rw [List.getElem?_map,hx];rfl) hv
  cases this with
  | c _ _ hc=>exact hc.tr T.blk T.ok T.size
 have hnb:¬ iB M0 h hd w.heap.size:=fun hb=>by
  rcases hb with hm | ⟨b,k,hk,_,hg⟩
  ·have:=hM _ hm;omega
  ·have:=(H.lt hk hg).2;omega
 have:=CR.of_rows (w:=w.alloc (.cells us' e)) (bad:=iB M0 h hd) (e:=s) (l:=l) (g:=w.heap.size) (off:=0) (cap:=l.length) hnb (by simp) (EA _) hrowl hcr (fun j u hu=>by
  have hc:(w.alloc (.cells us' e)).heap[w.heap.size]? = PA (.cells us' e (0,0)):=by simpa using heap_alloc_new w (.cells us' e)
  simp only [World.cell?,hc,Nat.zero_add]
  simpa using hu)
 rw [hll]
 exact this
theorem gv_fill (H:HR B0 M0 w h hd) (hM:∀ g,M0 g -> g < w.heap.size) (hB:B0 <= w.heap.size) {t:TypeId} {zs:List Value} (hz:TG P t = PA zs) (h1:zs.all (·.oneCell') = SA) {b:Nat} (hp:mD h = PA b) :
  GV P B0 M0 w h hd (Instr.alloc t SA (.tuple #[])) (.one (.ptr b 1 0 0)) (h.set b ⟨1,t,zs.length,[zs.map fun v=>.c (.val v)],SA,SA⟩):=by
 obtain ⟨k0,hk0,hph,_⟩:=BF hp
 have hlt:=(dA.1 hk0).1
 have hnil:hd b = .slice QA 0 0:=(H.nn b k0 hk0).1 hph.2.2.2.1
 unfold TG at hz
 cases hi:P.info? t with
 | none=>simp [hi] at hz
 | some i =>
  cases hq:i.zero with
  | none=>simp [hi,hq] at hz
  | some z =>
   simp only [hi,hq,Option.bind_some,Option.map_some,BA] at hz
   have hrun:(Instr.alloc t SA (.tuple #[])).run P w = .ok (.pointer (PA ⟨w.heap.size,0,QA⟩)) (w.alloc (.cells zs.toArray t)):=by
    simp [Instr.alloc,zeroValue,typeInfo,hi,hq,newVar,newRow,Result.andThen,<- hz]
   have hpw:=TL (w:=w) (bad:=iB M0 h hd) (h:=h) (hd:=hd) h1
   have hown:(w.alloc (.cells zs.toArray t)).ownsRow B0 t zs.length (.slice (PA ⟨w.heap.size,0,QA⟩) 1 1) 1 zs.toArray.toList :=
    World.ownsRow_lit w zs.toArray 1 hB (by simp [maxLen]) (by simp)
   have hg:w.grownBy (w.alloc (.cells zs.toArray t)) (hd b).ownBlock:=by rw [hnil];exact World.grownBy_alloc w _ QA
   have key:=H.upd (k':=⟨1,t,zs.length,[zs.map fun v=>.c (.val v)],SA,SA⟩) hk0 hph.2.2.1 hg (v:=.slice (PA ⟨w.heap.size,0,QA⟩) 1 1) (xs:=zs) (.inr (by rw [hph.2.1];exact Nat.one_pos))
    (fun i r hi=>by
     cases i with
     | zero=>simp at hi;subst hi;simp
     | succ i=>simp at hi) (by simpa using hown) (by simpa using hpw.2) (fun g hg=>by simp [Value.ownBlock] at hg;exact .inr (by omega)) hM (by simp)
   refine ⟨_,_,_,QA,hrun,by rw [hnil] at hg;exact hg,lD,key.1,key.2,.one _ _ ?_⟩
   have:=VR.ptr (w:=w.alloc (.cells zs.toArray t)) (bad:=iB M0 (h.set b ⟨1,t,zs.length,[zs.map fun v=>.c (.val v)],SA,SA⟩) (Am.upd hd b (.slice (PA ⟨w.heap.size,0,QA⟩) 1 1))) (h:=h.set b ⟨1,t,zs.length,[zs.map fun v=>.c (.val v)],SA,SA⟩)
    (hd:=Am.upd hd b (.slice (PA ⟨w.heap.size,0,QA⟩) 1 1)) b 0 0 ⟨1,t,zs.length,[zs.map fun v=>.c (.val v)],SA,SA⟩ w.heap.size 1 1 (by simp [hlt]) (SC _ _ _)
   simpa using this
theorem gv_makec (H:HR B0 M0 w h hd) (hM:∀ g,M0 g -> g < w.heap.size) (hB:B0 <= w.heap.size) {t e:TypeId} {i:TypeInfo} {z:Value} (ht:P.underlying t = PA (.slice e)) (hi:P.info? e = PA i) (hz:i.zero = PA z)
  (hzs:z.cells.size = i.size) (hsz:0 < i.size) (h1:z.cells.all (·.oneCell') = SA) {kl kc:IntKind} {n:Int} (h0:0 <= n) (hb:n * i.bytes <= 140737488355328) (h63:n <= 9223372036854775807) :
  GV P B0 M0 w h hd (Instr.makeSlice t (.int kl n) (.int kc n)) (.one (.c (.sl i.size (jA n.toNat (z.cells.toList.map .val))))) h:=by
 obtain ⟨n,rfl⟩:∃ m:Nat,n = m:=⟨n.toNat,by omega⟩
 simp only [Int.toNat_natCast]
 obtain ⟨w',hrun,ho,hg⟩:=run_make_full (P:=P) w B0 t e i z i.size ht hi hz rfl kl kc n (by
  have hb':((n * i.bytes:Nat):Int) <= 140737488355328:=by rw [Int.natCast_mul];exact hb
  rw [Nat.mul_comm];omega) (by rw [LK];omega) hB
 obtain ⟨H',T⟩:=H.same hg
 refine ⟨_,_,hd,QA,hrun,hg,lD,H',T,.one _ _ (.c _ _ ?_)⟩
 have hpw:=yM (w:=w') (h:=h) (hd:=hd) (bad:=iB M0 h hd) (n:=n) hzs hsz h1
 have hrowl:∀ (j:Nat) (r:List CV),(jA n (z.cells.toList.map CV.val))[j]? = PA r -> r.length = i.size:=fun j r hj=>by
  rw [List.getElem?_replicate] at hj
  split at hj
  ·simp at hj;subst hj;simp [hzs]
  ·cases hj
 have hflat:(jA n (z.cells.toList.map fun v=>Cell.c (.val v))).flatten = (jA n (z.cells.toList.map CV.val)).flatten.map Cell.c:=by
  rw [List.map_flatten,List.map_replicate,uA];rfl
 have hcr:PW (CR w' (iB M0 h hd)) (jA n (z.cells.toList.map CV.val)).flatten (madeCells z.cells (n * i.size)).toList:=by
  rw [hflat] at hpw
  refine ⟨by rw [<- hpw.1,eA],fun j x v hx hv=>?_⟩
  have:=hpw.2 j (.c x) v (by rw [List.getElem?_map,hx];rfl) hv
  cases this with
  | c _ _ hc=>exact hc
 have hnb:¬ iB M0 h hd w.heap.size:=fun hb=>by
  rcases hb with hm | ⟨b,k,hk,_,hg⟩
  ·have:=hM _ hm;omega
  ·have:=(H.lt hk hg).2;omega
 have hlt:w.heap.size < w'.heap.size:=by
  rcases ho.2 with ⟨h0,_⟩ | ⟨g,cap,cur,hh,_,hgg,_⟩
  ·cases h0
  ·have:=(Array.getElem?_eq_some_iff.1 hgg).1
   simp only [Value.slice.injEq,BA,Addr.mk.injEq] at hh
   rw [hh.1.1];exact this
 have:=CR.of_rows (w:=w') (bad:=iB M0 h hd) (e:=i.size) (l:=jA n (z.cells.toList.map CV.val)) (g:=w.heap.size) (off:=0) (cap:=n) hnb hlt (by rw [tA];exact EA _) hrowl hcr (fun j u hu=>by
  have:=ho.cells (g:=w.heap.size) rfl j u hu
  rwa [TC] at this)
 rw [tA] at this
 exact this
theorem cop_make {o:Oper} {ty:TypeId} {e b:Nat} {zs:List Value} {l x:Operand} (hc:cop P o = PA (.make ty e b zs l x)):∃ t,o.op = .makeSlice t l x:=by
 obtain ⟨dst,op,type,pos,after,guard⟩:=o
 cases op with
 | call cc =>
  exfalso
  obtain ⟨callee,cargs,ct⟩:=cc
  cases callee with
  | value f'=>simp [cop] at hc
  | invoke r m=>simp [cop] at hc
  | builtin b =>
   cases b <;> simp only [cop,reduceCtorEq] at hc <;> (repeat' split at hc) <;> simp [CA,AA] at hc
 | makeFunc fn first caps =>
  exfalso
  cases fn <;> simp only [cop,reduceCtorEq] at hc
  repeat' split at hc
  all_goals simp at hc
 | makeSlice t l' c' =>
  simp only [cop] at hc
  repeat' split at hc
  all_goals first | (simp only [BA,COp.make.injEq] at hc;obtain ⟨rfl,rfl,rfl,rfl,rfl,rfl⟩:=hc;exact ⟨_,rfl⟩) | cases hc
 | field s x i =>
  exfalso
  simp only [cop] at hc
  split at hc
  ·simp only [CA] at hc
   obtain ⟨fd,_,hc⟩:=hc
   repeat' split at hc
   all_goals simp at hc
  ·cases hc
 | binOp op t x y yt =>
  exfalso
  cases op <;> simp only [cop,JM,BA,reduceCtorEq] at hc <;> (repeat' split at hc) <;> simp at hc
 | _ =>
  exfalso
  simp only [cop,reduceCtorEq,BA] at hc <;> (repeat' split at hc) <;> simp [CA,AA] at hc
theorem cop_mkrow {o:Oper} {ty:TypeId} {e:Nat} {ps:List Operand} (hc:cop P o = PA (.mkrow ty e ps)):∃ t len parts,o.op = .buildSlice t len parts:=by
 obtain ⟨dst,op,type,pos,after,guard⟩:=o
 cases op with
 | buildSlice t len parts=>exact ⟨t,len,parts,rfl⟩
 | call cc =>
  obtain ⟨callee,cargs,ct⟩:=cc
  exfalso
  cases callee with
  | value f'=>simp [cop] at hc
  | invoke r m=>simp [cop] at hc
  | builtin b =>
   cases b <;> simp only [cop,reduceCtorEq] at hc <;> (repeat' split at hc) <;> simp [CA,AA] at hc
 | makeFunc fn first caps =>
  exfalso
  cases fn <;> simp only [cop,reduceCtorEq] at hc
  repeat' split at hc
  all_goals simp at hc
 | field s x i =>
  exfalso
  simp only [cop] at hc
  split at hc
  ·simp only [CA] at hc
   obtain ⟨fd,_,hc⟩:=hc
   repeat' split at hc
   all_goals simp at hc
  ·cases hc
 | binOp op t x y yt =>
  exfalso
  cases op <;> simp only [cop,JM,BA,reduceCtorEq] at hc <;> (repeat' split at hc) <;> simp at hc
 | _ =>
  exfalso
  simp only [cop,reduceCtorEq,BA] at hc <;> (repeat' split at hc) <;> simp [CA,AA] at hc
theorem cop_new {o:Oper} {ty:TypeId} {zs:List Value} (hc:cop P o = PA (.new ty zs)):o.op = .alloc ty /\ TG P ty = PA zs /\ zs.all (·.oneCell') = SA:=by
 obtain ⟨dst,op,type,pos,after,guard⟩:=o
 cases op with
 | alloc t =>
  simp only [cop,CA] at hc
  obtain ⟨z,hz,hc⟩:=hc
  split at hc
  ·rename_i h1
   simp only [BA,COp.new.injEq] at hc
   obtain ⟨rfl,rfl⟩:=hc
   exact ⟨rfl,hz,h1⟩
  ·cases hc
 | call cc =>
  obtain ⟨callee,cargs,ct⟩:=cc
  exfalso
  cases callee with
  | value f'=>simp [cop] at hc
  | invoke r m=>simp [cop] at hc
  | builtin b =>
   cases b <;> simp only [cop,reduceCtorEq] at hc <;> (repeat' split at hc) <;> simp [CA,AA] at hc
 | makeFunc fn first caps =>
  exfalso
  cases fn <;> simp only [cop,reduceCtorEq] at hc
  repeat' split at hc
  all_goals simp at hc
 | field s x i =>
  exfalso
  simp only [cop] at hc
  split at hc
  ·simp only [CA] at hc
   obtain ⟨fd,_,hc⟩:=hc
   repeat' split at hc
   all_goals simp at hc
  ·cases hc
 | binOp op t x y yt =>
  exfalso
  cases op <;> simp only [cop,JM,BA,reduceCtorEq] at hc <;> (repeat' split at hc) <;> simp at hc
 | _ =>
  exfalso
  simp only [cop,reduceCtorEq,BA] at hc <;> (repeat' split at hc) <;> simp [CA,AA] at hc
theorem oQ (r:Rel X st hd a w) {o:Oper} {K:Act -> World -> Prop} (hnd:∀ d,o.op ≠ .defer d) {av:AV} {h':List Blk} (g:GN P X.B0 X.M0 w st.h hd (execOp a.eval o) o.dst av h')
  (hK:∀ hd' a' w',Rel X ⟨VC st.t o.dst av,h'⟩ hd' a' w' -> K a' w'):o.wpIn (Wd rd) n P a w K Q:=by
 refine ⟨fun f _=>trivial,?_⟩
 have hsem:o.semAt (Wd rd).round a.eval = execOp a.eval o:=Oper.semAt_eq _ _ _ hnd
 rw [hsem]
 obtain ⟨nx,w',hd',row,hrun,hg,hro,H',T,hv⟩:=g
 rw [hrun]
 rcases hv with ⟨v,rfl,hav⟩ | ⟨rfl,hdst⟩
 ·exact hK hd' _ _ (r.step hg hro H' T hav)
 ·have hj':=r.step (dst:=QA) (av:=.junk) (v:=undef) hg hro H' T (.junk _)
  show K (a.put o.dst undef) w'
  refine hK hd' _ _ ?_
  rw [hdst]
  exact hj'
theorem op_okV (r:Rel X st hd a w) {o:Oper} {c c':COp} {K:Act -> World -> Prop} (hc:cop P o = PA c) (hvy:vary c c') (hs:OpS P st o.dst c' st')
  (hK:∀ hd' a' w',Rel X st' hd' a' w' -> K a' w'):o.wpIn (Wd rd) n P a w K Q:=by
 rcases hvy with rfl | ⟨e,x,lo,hi,mx,rfl,rfl⟩ | ⟨ty,e,ps,rfl,rfl⟩ | ⟨ty,zs,rfl,rfl⟩ | ⟨ty,e,by',zs,l,x,rfl,rfl⟩ | ⟨n',ag,x,rfl,rfl⟩ | ⟨off,x,rfl,rfl⟩
 ·exact ES r hc hs hK
 ·obtain ⟨av,h',hst,rfl⟩:=hs
  exact ES r hc (st':=⟨VC st.t o.dst av,h'⟩) ⟨av,h',cutc_slice hst,rfl⟩ hK
 ·obtain ⟨av,h',hst,rfl⟩:=hs
  obtain ⟨t,len,parts,hop⟩:=cop_mkrow hc
  obtain ⟨dst,op,type,pos,after,guard⟩:=o
  simp only at hop
  subst hop
  refine oQ r (by simp) ?_ hK
  simp only [cstep,AA,MA] at hst
  obtain ⟨rows,hm,rfl,rfl⟩:=hst
  obtain ⟨hl,hh⟩:=FL r.sees ps _ (UN ps rows hm)
  simp only [cop] at hc
  split at hc
  ·rename_i e' hu
   split at hc
   ·rename_i s zs hsz hz
    split at hc
    ·rename_i hcond
     obtain ⟨hpi,hlim,hzl,hs0,hmax⟩:=hcond
     simp only [BA,COp.mkrow.injEq] at hc
     obtain ⟨rfl,rfl,rfl⟩:=hc
     have hlen:(rows.map (·.map Cell.c)).length = len:=by
      rw [hl,eA]
      have:=congrArg List.length hpi
      simpa using this
     subst hlen
     have g:=gv_mkrowc (P:=P) (t:=t) r.heap r.M0_lt hu hsz hz hzl hs0 (l:=rows) (vs:=(parts.toList.map (·.2)).map a.eval) (by simp [hl]) hh (by omega) (parts:=parts.map fun (i,x)=>(i,a.eval x)) (by
      apply List.ext_getElem?
      intro i
      simp only [Array.toList_map,List.getElem?_map,List.zipIdx_map,List.getElem?_zipIdx,Option.map_map]
      have hi:=congrArg (·[i]?) hpi
      simp only [List.getElem?_map] at hi
      cases hx:parts.toList[i]? with
      | none=>simp
      | some x =>
       rw [hx] at hi
       have hlt:i < (rows.map (·.map Cell.c)).length:=by
        rw [hl,eA]
        exact (dA.1 hx).1
       rw [List.getElem?_range hlt] at hi
       simp at hi
       simp [hi])
     exact g.next
    ·cases hc
   ·cases hc
  ·cases hc
 ·obtain ⟨av,h',hst,rfl⟩:=hs
  obtain ⟨hop,hz,h1⟩:=cop_new hc
  obtain ⟨dst,op,type,pos,after,guard⟩:=o
  simp only at hop
  subst hop
  refine oQ r (by simp) ?_ hK
  simp only [cstep,AA,MA] at hst
  obtain ⟨b,hb,rfl,rfl⟩:=hst
  exact (gv_fill r.heap r.M0_lt r.B0_le hz h1 hb).next
 ·obtain ⟨av,h',hst,rfl⟩:=hs
  obtain ⟨t,hop⟩:=cop_make hc
  obtain ⟨dst,op,type,pos,after,guard⟩:=o
  simp only at hop
  subst hop
  refine oQ r (by simp) ?_ hK
  simp only [cop] at hc
  split at hc
  ·rename_i e' hu
   split at hc
   ·rename_i inf hinf
    split at hc
    ·rename_i z hz
     split at hc
     ·rename_i hcond
      simp only [BA,COp.make.injEq] at hc
      obtain ⟨rfl,rfl,rfl,rfl,_,_⟩:=hc
      simp only [cstep] at hst
      split at hst
      ·rename_i k1 n k2 m hl hm
       split at hst
       ·rename_i hnm
        obtain ⟨rfl,h0,hb,h63⟩:=hnm
        simp only [BA,MA] at hst
        obtain ⟨rfl,rfl⟩:=hst
        have h1:a.eval l = .int k1 n:=(r.sees l).int hl
        have h2:a.eval x = .int k2 n:=(r.sees x).int hm
        have:=(gv_makec r.heap r.M0_lt r.B0_le hu hinf hz hcond.1 hcond.2.1 hcond.2.2 (kl:=k1) (kc:=k2) h0 hb h63).next (dst:=dst)
        rw [<- h1,<- h2] at this
        exact this
       ·cases hst
      ·cases hst
     ·cases hc
    ·cases hc
   ·cases hc
  ·cases hc
 ·obtain ⟨av,h',hst,rfl⟩:=hs
  exact ES r hc (st':=⟨VC st.t o.dst av,h'⟩) ⟨av,h',loadc_load hst,rfl⟩ hK
 ·obtain ⟨av,h',hst,rfl⟩:=hs
  exact ES r hc (st':=⟨VC st.t o.dst av,h'⟩) ⟨av,h',faddrc_faddr hst,rfl⟩ hK
def compV (P:Program) (ops:Array Oper) (o:Oper) (co:CO):Prop :=
 co.dst = o.dst /\ (∃ c,cop P o = PA c /\ vary c co.op) /\ (match o.guard with
  | none=>co.guard = QA
  | some (j,want)=>∃ t,(ops[j]?).bind (·.dst) = PA t /\ co.guard = PA (t,want))
theorem od_okV (r:Rel X st hd a w) {o:Oper} {co:CO} {i:Nat} {K:Act -> World -> Prop} (hi:ops[i]? = PA o) (hc:compV P ops o co) (hs:OD P opn co st st')
  (hK:∀ hd' a' w',Rel X st' hd' a' w' -> K a' w'):wpOpIn (Wd rd) n P ops Q i K a w:=by
 obtain ⟨hdst,⟨c,hcop,hvy⟩,hgd⟩:=hc
 obtain ⟨av,h',hv,rfl⟩:=hs
 unfold wpOpIn
 rw [hi]
 simp only
 unfold OV at hv
 cases hg:o.guard with
 | none =>
  rw [hg] at hgd
  simp only at hgd
  rw [hgd] at hv
  simp only at hv
  have hw:Region.wanted o (yielded ops a.tmps) = SA:=by unfold Region.wanted;rw [hg]
  rw [if_pos hw]
  refine op_okV r hcop hvy (st':=⟨VC st.t o.dst av,h'⟩) hv.opS (fun hd' a' w' hr=>?_)
  rw [<- hdst] at hr
  exact hK hd' a' w' hr
 | some jw =>
  obtain ⟨j,want⟩:=jw
  rw [hg] at hgd
  obtain ⟨x,hx,hgd⟩:=hgd
  rw [hgd] at hv
  obtain ⟨g,hgw,h1,h2⟩:=hv
  have hw:=AM r hg hx hgw
  cases g with
  | true =>
   rw [if_pos hw]
   refine op_okV r hcop hvy (st':=⟨VC st.t o.dst av,h'⟩) (h1 rfl).opS (fun hd' a' w' hr=>?_)
   rw [<- hdst] at hr
   exact hK hd' a' w' hr
  | false =>
   rw [if_neg (by rw [hw];simp)]
   obtain ⟨rfl,rfl⟩:=h2 rfl
   refine ⟨fun f _=>trivial,hK hd _ _ ?_⟩
   rw [hdst]
   exact r.step (PC w QA) lD r.heap (Tr.refl _ _ _ _) (.tup [] [] rfl (fun i c v h=>by simp at h))
def relB (opn:List FuncId) (ops:Array Oper) (cos:List CO) (A:List (List Nat)) (p i:Nat):Bool :=
 ((A.getD i []).contains p || gH opn cos p i) && !(match ops[p]? with | some o=>(WE o).contains i | none=>TA) && p != i
def pairB (f:Nat -> Nat -> Bool):List Nat -> Bool
 | []=>SA
 | x :: l=>l.all (f x) && pairB f l
theorem pairB_pw {f:Nat -> Nat -> Bool}:∀ {l:List Nat},pairB f l = SA -> l.Pairwise (fun a b=>f a b = SA)
 | [],_=>List.Pairwise.nil
 | x :: l,h=>by
  simp only [pairB,JA,List.all_eq_true] at h
  exact List.Pairwise.cons h.1 (pairB_pw h.2)
def zJ (cos:List CO) (i:Nat):Bool:=match cos[i]? with | some c=>(match c.op with | .fill ..=>SA | _=>TA) | none=>TA
def isWr (opn:List FuncId) (cos:List CO) (i:Nat):Bool:=match cos[i]? with | some c=>decide (HE opn c.op = .write) || decide (HE opn c.op = .quiet) | none=>TA
def LF (opn:List FuncId) (ops:Array Oper) (cos:List CO) (A:List (List Nat)) (ord:List Nat):Bool :=
 Nat.ble ord.length ops.size && pairB (relB opn ops cos A) ord && ord.all (fun i=>Nat.blt i ops.size) && (List.range ops.size).all (fun i=>ord.contains i) &&
 (List.range ops.size).all (fun i=>match ops[i]? with
   | some o=>(WE o).all (fun d=>Nat.blt d ops.size && d != i) && (A.getD i []).all fun p=>(WE o).contains p || (WE o).any fun d=>(A.getD d []).contains p
   | none=>SA) &&
 (List.range ops.size).all (fun f=>!zJ cos f || (List.range ops.size).all fun i=>(i == f) || (!zJ cos i && (!isWr opn cos i || (A.getD i []).contains f)))
theorem EQ {co:CO} {i:Nat} (hco:cos[i]? = PA co):zJ cos i = SA ↔ HE opn co.op = .fill:=by
 unfold zJ
 rw [hco]
 cases ho:co.op with
 | fill ty zs=>simp [ho,HE]
 | callf f args=>simp only [ho];rw [GE];constructor;· intro h;cases h
                 ·intro h;split at h;· cases h
                  ·split at h <;> cases h
 | append ty e b x y=>simp only [ho,HE];constructor;· intro h;cases h
                      ·intro h;split at h <;> cases h
 | _=>simp [ho,HE]
def allV (P:Program) (ops:Array Oper) (cos:List CO):Prop :=
 cos.length = ops.size /\ ∀ (i:Nat) (o:Oper) (co:CO),ops[i]? = PA o -> cos[i]? = PA co -> compV P ops o co
theorem rD.one_fill {i:CO} {s1:St} (hc:HE opn i.op = .pure \/ HE opn i.op = .read \/ HE opn i.op = .alloc \/ HE opn i.op = .app) {b:Nat} (hb:mD st.h = PA b) (hi:OD P opn i st s1):mD s1.h = PA b:=by
 obtain ⟨av,h',hv,rfl⟩:=hi
 exact (OV.fill_up hc hb hv).1
theorem anyV_ok (hc:allV P ops cos) {A:List (List Nat)} {ord:List Nat} (hA:LF opn ops cos A ord = SA) (hK:∀ hd' a' w',Rel X st' hd' a' w' -> Q .normal a' w') :
  ∀ (fuel:Nat) (r:List Nat) (listed:Array Bool) (st:St) (hd:Nat -> Value) (a:Act) (w:World),r.length <= fuel -> r.Pairwise (fun p i=>relB opn ops cos A p i = SA) -> (∀ i ∈ r,i < ops.size) -> listed.size = ops.size ->
   (∀ i,i < ops.size -> (listed.getD i SA = SA ↔ i ∉ r)) -> (∀ j,j < ops.size -> j ∉ r -> ∀ p ∈ A.getD j [],p ∉ r) -> (∀ f ∈ r,zJ cos f = SA -> ∃ b,mD st.h = PA b) ->
   Rel X st hd a w -> rD P opn (r.filterMap (cos[·]?)) st st' -> wpAnyIn (Wd rd) n P .any ops Q fuel listed a w:=by
 unfold LF at hA
 simp only [JA] at hA
 obtain ⟨⟨⟨⟨⟨_,_⟩,_⟩,_⟩,hD⟩,hF⟩:=hA
 have hspec:∀ i o,ops[i]? = PA o -> (∀ d ∈ WE o,d < ops.size /\ d ≠ i) /\ (∀ p ∈ A.getD i [],p ∈ WE o \/ ∃ d ∈ WE o,p ∈ A.getD d []):=fun i o ho=>by
  have hlt:i < ops.size:=(Array.getElem?_eq_some_iff.1 ho).1
  have:=List.all_eq_true.1 hD i (zA.2 hlt)
  rw [ho] at this
  simp only [JA,List.all_eq_true,Bool.or_eq_true,List.contains_iff_mem,List.any_eq_true,bne_iff_ne] at this
  exact ⟨fun d hd=>⟨by simpa using (this.1 d hd).1,(this.1 d hd).2⟩,this.2⟩
 have hfill:∀ f,f < ops.size -> zJ cos f = SA -> ∀ i,i < ops.size -> i ≠ f -> zJ cos i = TA /\ (isWr opn cos i = SA -> f ∈ A.getD i []):=fun f hf hff i hi hne=>by
  have:=List.all_eq_true.1 hF f (zA.2 hf)
  simp only [hff,Bool.not_true,Bool.false_or,List.all_eq_true,zA,Bool.or_eq_true,JA,beq_iff_eq,Bool.not_eq_true',List.contains_iff_mem] at this
  rcases this i hi with e | ⟨e1,e2⟩
  ·exact absurd e hne
  ·exact ⟨e1,fun hw=>e2.resolve_left (by rw [hw];simp)⟩
 have hrel:∀ p i,relB opn ops cos A p i = SA -> (p ∈ A.getD i [] \/ True) /\ ((A.getD p [] = A.getD p []) /\ p ≠ i) /\ (i ∈ A.getD p [] -> True) /\ (∀ o,ops[p]? = PA o -> i ∉ WE o) /\ (p ∈ A.getD i [] \/ gH opn cos p i = SA):=fun p i h=>by
  unfold relB at h
  simp only [JA,Bool.or_eq_true,List.contains_iff_mem,bne_iff_ne] at h
  refine ⟨.inr trivial,⟨rfl,h.2⟩,fun _=>trivial,fun o ho=>?_,h.1.1⟩
  have:=h.1.2
  rw [ho] at this
  simpa using this
 have hgd:∀ (listed:Array Bool) i,i < listed.size -> listed.getD i SA = listed.getD i TA:=fun listed i hi=>by simp [Array.getD,hi]
 have hdeps:∀ o e,e ∈ o.after -> Region.binds .any e = SA -> e.on ∈ WE o:=fun o e he hb =>
  yA.2 ⟨e,List.mem_filter.2 ⟨by simpa using he,hb⟩,rfl⟩
 have done:∀ (r:List Nat) (listed:Array Bool),r.Pairwise (fun p i=>relB opn ops cos A p i = SA) -> (∀ i ∈ r,i < ops.size) -> listed.size = ops.size -> (∀ i,i < ops.size -> (listed.getD i SA = SA ↔ i ∉ r)) ->
   Region.ready .any ops listed = [] -> r = []:=fun r listed hp hlt hsz hl hr=>by
  cases r with
  | nil=>rfl
  | cons i r =>
   exfalso
   have hi:i < ops.size:=hlt i (by simp)
   have ho:ops[i]? = PA ops[i]:=by simp [hi]
   have hin:i ∈ Region.ready .any ops listed:=by
    rw [mem_ready]
    refine ⟨?_,_,ho,fun e he hb=>?_⟩
    ·cases hq:listed.getD i SA with
     | false=>rfl
     | true=>exact absurd ((hl i hi).1 hq) (by simp)
    ·have hd:=(hspec i _ ho).1 _ (hdeps _ e he hb)
     rw [<- hgd listed _ (by rw [hsz];exact hd.1)]
     refine (hl _ hd.1).2 (fun hm=>?_)
     rcases List.mem_cons.1 hm with he' | hm
     ·exact hd.2 he'
     ·have:=List.rel_of_pairwise_cons hp hm
      exact (hrel _ _ this).2.2.2.1 _ ho (hdeps _ e he hb)
   rw [hr] at hin
   cases hin
 intro fuel
 induction fuel with
 | zero =>
  intro r listed st hd a w hlen hp hlt hsz hl hdc hph R hrun
  have:r = []:=List.eq_nil_of_length_eq_zero (Nat.le_zero.1 hlen)
  subst this
  cases hrun
  refine ⟨?_,hK hd a w R⟩
  cases hq:Region.ready .any ops listed with
  | nil=>rfl
  | cons i l =>
   exfalso
   have hin:i ∈ Region.ready .any ops listed:=by rw [hq];simp
   obtain ⟨h0,o,ho,_⟩:=mem_ready.1 hin
   have:=(hl i (Array.getElem?_eq_some_iff.1 ho).1).2 (by simp)
   rw [h0] at this
   cases this
 | succ fuel ih =>
  intro r listed st hd a w hlen hp hlt hsz hl hdc hph R hrun
  refine ⟨fun hq=>?_,fun i hin=>?_⟩
  ·have:=done r listed hp hlt hsz hl hq
   subst this
   cases hrun
   exact hK hd a w R
  ·obtain ⟨h0,o,ho,hall⟩:=mem_ready.1 hin
   have hi:i < ops.size:=(Array.getElem?_eq_some_iff.1 ho).1
   have hir:i ∈ r:=by
    refine Decidable.byContradiction fun hn=>?_
    have:=(hl i hi).2 hn
    rw [h0] at this
    cases this
   obtain ⟨pre,post,rfl⟩:=List.append_of_mem hir
   have hpp:=List.pairwise_append.1 hp
   have hpre:∀ p ∈ pre,relB opn ops cos A p i = SA:=fun p hpm=>hpp.2.2 p hpm i (by simp)
   have hpost:∀ p ∈ post,relB opn ops cos A i p = SA:=fun p hpm=>List.rel_of_pairwise_cons hpp.2.1 hpm
   have hlisted:∀ d ∈ WE o,d ∉ pre ++ i :: post:=fun d hd=>by
    obtain ⟨e,he,rfl⟩:=yA.1 hd
    obtain ⟨he1,he2⟩:=List.mem_filter.1 he
    have pD:=((hspec i o ho).1 _ hd).1
    exact (hl _ pD).1 (by rw [hgd listed _ (by rw [hsz];exact pD)];exact hall e (by simpa using he1) he2)
   have hAi:∀ p ∈ A.getD i [],p ∉ pre ++ i :: post:=fun p hpA=>by
    rcases (hspec i o ho).2 p hpA with hd | ⟨d,hd,hpd⟩
    ·exact hlisted p hd
    ·exact hdc d ((hspec i o ho).1 d hd).1 (hlisted d hd) p hpd
   have hco:cos[i]? = PA (cos[i]'(by rw [hc.1];exact hi)):=by simp [hc.1,hi]
   generalize hcoi:(cos[i]'(by rw [hc.1];exact hi)) = co at hco
   rw [List.filterMap_append,List.filterMap_cons,hco] at hrun
   obtain ⟨sp,hr1,sq,hr2,hr3⟩:=rD.append hrun
   obtain ⟨s1,ho1,hrest⟩:=rD.move hr1 hr2 (fun c hcm=>by
    obtain ⟨p,hpm,hpc⟩:=List.mem_filterMap.1 hcm
    rcases (hrel _ _ (hpre p hpm)).2.2.2.2 with hA' | hind
    ·exact absurd (by simp [hpm]) (hAi p hA')
    ·unfold gH at hind
     rw [hpc,hco] at hind
     exact hind) (fun x hx=>(R.sees x).scopedV) (fun e=>hph i (by simp) ((EQ (opn:=opn) hco).2 e))
   refine od_okV R ho (hc.2 i o co ho hco) ho1 (fun hd' a' w' R'=>?_)
   have hni:i ∉ pre ++ post:=fun hm=>by
    rcases List.mem_append.1 hm with hm | hm
    ·exact (hrel _ _ (hpre i hm)).2.1.2 rfl
    ·exact (hrel _ _ (hpost i hm)).2.1.2 rfl
   have hsub:∀ j,j ∈ pre ++ post -> j ∈ pre ++ i :: post:=fun j hj=>by simp only [List.mem_append,List.mem_cons] at hj ⊢;rcases hj with h | h <;> simp [h]
   refine ih (pre ++ post) (listed.setIfInBounds i SA) s1 hd' a' w' ?_ ?_ ?_ ?_ ?_ ?_ ?_ R' ?_
   ·simp only [sA,oA] at hlen ⊢;omega
   ·exact hp.sublist (by simp)
   ·exact fun j hj=>hlt j (hsub j hj)
   ·simpa using hsz
   ·intro j hj
    by_cases he:i = j
    ·subst he
     refine ⟨fun _=>hni,fun _=>?_⟩
     simp [Array.getD,hsz,hi]
    ·rw [getD_set_ne SA he,hl j hj]
     simp only [List.mem_append,List.mem_cons]
     constructor
     ·intro h1 h2;exact h1 (h2.elim .inl (fun h=>.inr (.inr h)))
     ·intro h1 h2;exact h1 (h2.elim .inl (fun h=>h.elim (fun e=>absurd e.symm he) .inr))
   ·intro j hj hjn p hpA hpm
    have hpm':=hsub p hpm
    by_cases he:j = i
    ·subst he;exact hAi p hpA hpm'
    ·refine hdc j hj (fun hm=>hjn ?_) p hpA hpm'
     simp only [List.mem_append,List.mem_cons] at hm ⊢
     rcases hm with h | h | h
     ·exact .inl h
     ·exact absurd h he
     ·exact .inr h
   ·intro f hf hff
    have hfr:=hsub f hf
    obtain ⟨b,hb⟩:=hph f hfr hff
    have hfi:i ≠ f:=fun e=>hni (by rw [e];exact hf)
    obtain ⟨e1,e2⟩:=hfill f (hlt f hfr) hff i hi hfi
    refine ⟨b,rD.one_fill ?_ hb ho1⟩
    cases hcl:HE opn co.op with
    | pure=>exact .inl rfl
    | read=>exact .inr (.inl rfl)
    | alloc=>exact .inr (.inr (.inl rfl))
    | app=>exact .inr (.inr (.inr rfl))
    | fill =>
     have:=(EQ (opn:=opn) hco).2 hcl
     rw [e1] at this
     cases this
    | write =>
     exfalso
     have hw:isWr opn cos i = SA:=by unfold isWr;rw [hco];simp [hcl]
     exact hAi f (e2 hw) hfr
    | quiet =>
     exfalso
     have hw:isWr opn cos i = SA:=by unfold isWr;rw [hco];simp [hcl]
     exact hAi f (e2 hw) hfr
   ·rw [List.filterMap_append]
    exact rD.join hrest hr3
def TN:Blk:=⟨0,0,0,[],SA,TA⟩
def JJ (cos:List CO):Bool:=cos.any fun c=>match c.op with | .fill ..=>SA | _=>TA
def waitSt (cos:List CO) (st:St):St:=if JJ cos then ⟨st.t,st.h ++ [TN]⟩ else st
theorem Rel.wait (r:Rel X st hd a w):∃ hd',Rel X ⟨st.t,st.h ++ [TN]⟩ hd' a w:=by
 have key:=r.heap.new (PC w QA) (k:=TN) (v:=.slice QA 0 0) (xs:=[]) (fun i r hi=>by simp [TN] at hi) (World.ownsRow_nil w X.B0 0 0) (fun i c u hc=>by simp [TN] at hc) (fun g hg=>by simp [Value.ownBlock] at hg) r.M0_lt (by simp [TN])
 exact ⟨_,r.step (dst:=QA) (av:=.junk) (v:=undef) (PC w QA) lD key.1 key.2 (.junk _)⟩
theorem BS:∀ (h:List Blk),∃ b,mD (h ++ [TN]) = PA b
 | []=>⟨0,rfl⟩
 | k :: h=>by
  obtain ⟨b,hb⟩:=BS h
  rw [rA]
  unfold mD
  split
  ·exact ⟨0,rfl⟩
  ·exact ⟨b + 1,by rw [hb];rfl⟩
theorem kI {id:Nat} (hm:P.follows .mixedOrders = SA) (hc:allV P ops cos) {A:List (List Nat)} {ord:List Nat} (hA:LF opn ops cos A ord = SA) (r:Rel X st hd a w)
  (hr:rD P opn (ord.filterMap (cos[·]?)) (waitSt cos st) st') (hK:∀ hd' a' w',Rel X st' hd' a' w' -> Q .normal a' w') :
  (Code.region id ops SA).wpIn (Wd rd) n P Q a w:=by
 have hA':=hA
 unfold LF at hA'
 simp only [JA] at hA'
 obtain ⟨⟨⟨⟨⟨hN,hP⟩,hL⟩,hC⟩,_⟩,_⟩:=hA'
 have hpw:=pairB_pw hP
 have hltO:∀ i ∈ ord,i < ops.size:=fun i hi=>by have:=List.all_eq_true.1 hL i hi;simpa using this
 have hcov:∀ i,i < ops.size -> i ∈ ord:=fun i hi=>by have:=List.all_eq_true.1 hC i (zA.2 hi);simpa using this
 have hlen:ord.length <= ops.size:=Nat.le_of_ble_eq_true hN
 have main:∀ (s0:St) (hd0:Nat -> Value),Rel X s0 hd0 a w -> (∀ f ∈ ord,zJ cos f = SA -> ∃ b,mD s0.h = PA b) -> rD P opn (ord.filterMap (cos[·]?)) s0 st' -> (Code.region id ops SA).wpIn (Wd rd) n P Q a w:=fun s0 hd0 r0 hph hr0=>by
  refine wpIn_region_any hm (anyV_ok hc hA hK ops.size ord _ s0 hd0 a _ hlen hpw hltO (by simp) (fun i hi=>?_) (fun j hj hjn=>absurd (hcov j hj) hjn) hph (r0.drawn _) hr0)
  have:(Array.replicate ops.size TA).getD i SA = TA:=by simp [Array.getD,hi]
  rw [this]
  simp [hcov i hi]
 unfold waitSt at hr
 by_cases hf:JJ cos = SA
 ·rw [if_pos hf] at hr
  obtain ⟨hd',r'⟩:=r.wait
  exact main _ hd' r' (fun _ _ _=>BS st.h) hr
 ·rw [if_neg hf] at hr
  refine main st hd r (fun f hfo hff=>?_) hr
  exfalso
  apply hf
  unfold zJ at hff
  cases hcf:cos[f]? with
  | none=>rw [hcf] at hff;cases hff
  | some c =>
   rw [hcf] at hff
   unfold JJ
   rw [List.any_eq_true]
   exact ⟨c,List.mem_of_getElem? hcf,hff⟩
end Go.Am
namespace Go.Am
open Go.RowKit
variable {GL:Glb}
variable {P:Program} {opn:List FuncId} {w w':World} {M0:Nat -> Prop} {h h0 h1 h2 h':List Blk} {hd hd':Nat -> Value} {B0:Nat} {bad bad':Nat -> Prop} {X:Ctx} {st st':St} {a:Act} {t t' t2:List AV}
 {ops:Array Oper} {cos:List CO} {rd:Option Nat} {n n0:Nat}
inductive CC where
 | skip
 | reg (cos:List CO)
 | regn (g:Bool) (cos:List CO)
 | seq (x y:CC)
 | cond (c:Operand) (x y:CC)
 | block (id:Nat) (c:CC)
 | scope (c:CC)
 | loop (c:CC)
 | rf (g:Operand) (ps:List Tmp) (ms:List (Tmp × Tmp)) (body:CC)
 | rfb (g:Operand) (ps:List Tmp) (d:Tmp) (ty:TypeId) (n:Nat) (s:Tmp) (body:CC)
 | exit (id:Nat)
 | ret
def SK (P:Program) (ops:Array Oper) (o:Oper):Option CO :=
 match cop P o with
 | none=>QA
 | some c=>match o.guard with
  | none=>PA ⟨o.dst,QA,c⟩
  | some (j,want)=>match (ops[j]?).bind (·.dst) with
   | some t=>PA ⟨o.dst,PA (t,want),c⟩
   | none=>QA
def moveOp (o:Oper):Option (Tmp × Tmp) :=
 match o.guard,o.dst,o.op with
 | none,PA d,.move (.tmp s)=>PA (d,s)
 | none,PA d,.assign (.tmp s)=>PA (d,s)
 | _,_,_=>QA
def yD:Code -> Option (List (Tmp × Tmp))
 | .skip=>PA []
 | .region _ ops TA=>ops.toList.mapM moveOp
 | .seq x y=>match yD x,yD y with | some a,PA b=>PA (a ++ b) | _,_=>QA
 | _=>QA
def boxOps (P:Program) (o1 o2:Oper):Option (Tmp × TypeId × Nat × Tmp) :=
 match o1.guard,o1.dst,o1.op,o2.guard,o2.dst,o2.op with
 | none,PA d,.alloc t,QA,QA,.store t' (.tmp d') (.tmp s) =>
  match TG P t,rE P t with
  | some zs,PA n=>if d' = d /\ t' = t /\ zs.length = n /\ s ≠ d then PA (d,t,n,s) else QA
  | _,_=>QA
 | _,_,_,_,_,_=>QA
def boxCode (P:Program):Code -> Option (Tmp × TypeId × Nat × Tmp)
 | .region _ ops TA=>match ops.toList with | [o1,o2]=>boxOps P o1 o2 | _=>QA
 | _=>QA
def eP (nf:Bool) (keep:List Operand -> Bool):COp -> COp
 | .slice e x lo hi mx=>.cutc e x lo hi mx
 | .mkrow ty e ps=>if ps.isEmpty || keep ps then .mkrow ty e ps else .mkrowc e ps
 | .new ty zs=>if nf then .fill ty zs else .new ty zs
 | c=>c
def isNew (c:CO):Bool:=match c.op with | .new ..=>SA | _=>TA
def isApp (c:CO):Bool:=match c.op with | .append ..=>SA | _=>TA
def fedApp (cos:List CO) (ps:List Operand):Bool:=cos.any fun c=>isApp c && ps.any fun p=>match p,c.dst with | .tmp t,PA d=>t == d | _,_=>TA
def XG (cos:List CO):List CO:=cos.map fun c=>⟨c.dst,c.guard,eP ((cos.filter isNew).length == 1) (fedApp cos) c.op⟩
def DI (cos:List CO):List CO:=cos.map fun c=>match c.op with
 | .make _ e b zs l x=>⟨c.dst,c.guard,.makec e b zs l x⟩
 | o=>⟨c.dst,c.guard,eP ((cos.filter isNew).length == 1) (fedApp cos) o⟩
def CI (cos:List CO):List CO:=cos.map fun c=>match c.op with
 | .load n ag x=>⟨c.dst,c.guard,.loadc n ag x⟩
 | .faddr off x=>⟨c.dst,c.guard,.faddrc off x⟩
 | o=>⟨c.dst,c.guard,o⟩
def ordOf (A:List (List Nat)) (cos:List CO) (n:Nat):List Nat :=
 let apps:=(List.range n).filter fun i=>match cos[i]? with | some c=>isApp c | none=>TA
 let a:=apps.foldl (fun acc i=>acc ++ ((List.range n).filter fun j=>(j == i || (A.getD i []).contains j) && !acc.contains j)) []
 a ++ (List.range n).filter fun j=>!a.contains j
def regCC (P:Program) (opn:List FuncId) (ops:Array Oper) (drawn:Bool):Option CC :=
 match ops.toList.mapM (SK P ops) with
 | some cos=>if !drawn || regionOk opn ops cos then PA (.reg cos) else
   if LF opn ops (XG cos) (RG ops.toList []) (List.range ops.size) then PA (.regn (JJ (XG cos)) ((List.range ops.size).filterMap ((XG cos)[·]?))) else
   if LF opn ops (XG cos) (RG ops.toList []) (ordOf (RG ops.toList []) cos ops.size) then PA (.regn (JJ (XG cos)) ((ordOf (RG ops.toList []) cos ops.size).filterMap ((XG cos)[·]?))) else
   if LF opn ops (DI cos) (RG ops.toList []) (ordOf (RG ops.toList []) cos ops.size) then PA (.regn (JJ (DI cos)) ((ordOf (RG ops.toList []) cos ops.size).filterMap ((DI cos)[·]?))) else
   if LF opn ops (CI cos) (RG ops.toList []) (List.range ops.size) then PA (.regn (JJ (CI cos)) ((List.range ops.size).filterMap ((CI cos)[·]?))) else QA
 | none=>QA
theorem eE {ops:Array Oper} {d:Bool} {cc:CC} (h:regCC P opn ops d = PA cc):(∃ cos,cc = .reg cos) \/ ∃ g cos,cc = .regn g cos:=by
 unfold regCC at h
 split at h
 ·split at h
  ·cases h;exact .inl ⟨_,rfl⟩
  ·split at h
   ·cases h;exact .inr ⟨_,_,rfl⟩
   ·split at h
    ·cases h;exact .inr ⟨_,_,rfl⟩
    ·split at h
     ·cases h;exact .inr ⟨_,_,rfl⟩
     ·split at h
      ·cases h;exact .inr ⟨_,_,rfl⟩
      ·cases h
 ·cases h
def ZA (P:Program) (opn:List FuncId):Code -> Option CC
 | .skip=>PA .skip
 | .region _ ops drawn=>regCC P opn ops drawn
 | .seq x y=>match ZA P opn x,ZA P opn y with | some a,PA b=>PA (.seq a b) | _,_=>QA
 | .cond c x y=>match ZA P opn x,ZA P opn y with | some a,PA b=>PA (.cond c a b) | _,_=>QA
 | .block id c=>(ZA P opn c).map (.block id)
 | .scope c=>(ZA P opn c).map .scope
 | .label _=>PA .skip
 | .loop c=>(ZA P opn c).map .loop
 | .rangeFunc g ps a b=>match yD a,boxCode P a,ZA P opn b with
  | some a,_,PA b=>PA (.rf g ps.toList a b)
  | none,PA (d,t,m,s),PA b=>PA (.rfb g ps.toList d t m s b)
  | _,_,_=>QA
 | .exit id=>PA (.exit id)
 | .ret=>PA .ret
 | _=>QA
theorem lI {α β:Type} {f:α -> Option β}:∀ {l:List α} {l':List β},l.mapM f = PA l' -> l'.length = l.length /\ ∀ (i:Nat) (a:α) (b:β),l[i]? = PA a -> l'[i]? = PA b -> f a = PA b
 | [],l',h=>by simp at h;subst h;exact ⟨rfl,fun i a b h=>by simp at h⟩
 | a :: l,l',h=>by
  rw [List.mapM_cons] at h
  cases hf:f a with
  | none=>simp [hf] at h
  | some b =>
   cases hm:l.mapM f with
   | none=>simp [hf,hm] at h
   | some bs =>
    simp [hf,hm] at h
    subst h
    obtain ⟨h1,h2⟩:=lI hm
    refine ⟨by simp [h1],fun i x y hx hy=>?_⟩
    cases i with
    | zero=>simp at hx hy;subst hx;subst hy;exact hf
    | succ i=>simp at hx hy;exact h2 i x y hx hy
theorem YQ {o:Oper} {co:CO} (h:SK P ops o = PA co):YI P ops o co:=by
 unfold SK at h
 split at h
 ·cases h
 ·rename_i c hc
  split at h
  ·rename_i hg
   simp only [BA] at h
   subst h
   refine ⟨rfl,hc,?_⟩
   rw [hg]
  ·rename_i j want hg
   split at h
   ·rename_i t ht
    simp only [BA] at h
    subst h
    refine ⟨rfl,hc,?_⟩
    rw [hg]
    exact ⟨t,ht,rfl⟩
   ·cases h
theorem ZQ (h:ops.toList.mapM (SK P ops) = PA cos):pE P ops cos:=by
 obtain ⟨h1,h2⟩:=lI h
 exact ⟨by simpa using h1,fun i o co ho hco=>YQ (h2 i o co (by simpa using ho) hco)⟩
def uD [Glb] (P:Program) (opn:List FuncId) (n0:Nat) (cc:CC) (Q:Exit -> St -> Prop) (st:St):Prop :=
 ∀ code,ZA P opn code = PA cc -> ∀ (X:Ctx) (n:Nat) (hd:Nat -> Value) (a:Act) (w:World),X.h0.length = n0 -> Rel X st hd a w ->
  code.wpIn (Wd X.rd) n P (fun e a' w'=>∃ st' hd',Q e st' /\ Rel X st' hd' a' w') a w
theorem uD.mono {cc:CC} {Q Q':Exit -> St -> Prop} (h:uD P opn n0 cc Q st) (hq:∀ e s,Q e s -> Q' e s):uD P opn n0 cc Q' st :=
 fun code hc X n hd a w hX r=>wpIn_mono (h code hc X n hd a w hX r) (fun e a w ⟨s,hd',q,r⟩=>⟨s,hd',hq e s q,r⟩)
def nI (h:List Blk) (e:Nat) (arr:Option Nat) (x:AV) (j:Int):Option AV :=
 match arr,x with
 | none,.one (.own b ver) =>
  match h[b]? with
  | some k=>if ver = k.ver /\ k.e = e /\ 0 <= j /\ j < k.els.length then PA (.one (.ptr b ver j.toNat 0)) else QA
  | none=>QA
 | none,.one (.c (.sl e' l))=>if e' = e /\ 0 <= j then (match l[j.toNat]? with | some r=>PA (.one (.iptr r)) | none=>QA) else QA
 | none,.one (.slx e' l)=>if e' = e /\ 0 <= j then (match l[j.toNat]? with | some r=>PA (.one (.iptr r)) | none=>QA) else QA
 | some n,.one (.ptr b ver i' off)=>match h[b]? with | some k=>if ver = k.ver /\ 0 < k.e /\ 0 <= j /\ j < n then PA (.one (.ptr b ver i' (off + j.toNat * e))) else QA | none=>QA
 | some n,.one (.iptr l)=>if 0 <= j /\ j < n then PA (.one (.iptr (l.drop (j.toNat * e)))) else QA
 | _,_=>QA
def UI (e:Nat) (x:AV) (lo hi:Option AV):Option AV :=
 match x with
 | .one (.c (.sl e' l))=>if e' = e then (ND l.length l.length hi).bind fun h=>(ND h 0 lo).map fun lw=>.one (.c (.sl e ((l.take h).drop lw))) else QA
 | .one (.c (.val (.slice QA 0 0)))=>(ND 0 0 hi).bind fun h=>(ND 0 0 lo).map fun _=>.one (.c (.val (.slice QA 0 0)))
 | _=>QA
theorem cutc_cut {e:Nat} {x:AV} {lo hi:Option AV}:yN e x lo hi QA = UI e x lo hi:=by
 unfold yN UI
 split
 ·rfl
 ·simp only [Option.isNone_none,if_true]
 ·rename_i h1 h2
  split
  ·exact (h1 _ _ rfl).elim
  ·exact (h2 rfl).elim
  ·rfl
def cev (st:St):COp -> Option (AV × List Blk)
 | .iaddr e arr x i=>match (st.ev i).int? with | some p=>(nI st.h e arr (st.ev x) p.2).map fun v=>(v,st.h) | none=>QA
 | .slice e x lo hi QA=>match UI e (st.ev x) (lo.map st.ev) (hi.map st.ev) with | some v=>PA (v,st.h) | none=>cstep st (.slice e x lo hi QA)
 | .cutc e x lo hi QA=>(UI e (st.ev x) (lo.map st.ev) (hi.map st.ev)).map fun v=>(v,st.h)
 | op=>cstep st op
theorem cev_eq (st:St) (op:COp):cev st op = cstep st op:=by
 cases op with
 | iaddr e arr x i =>
  simp only [cev,cstep]
  cases hi:(st.ev i).int? with
  | none=>rfl
  | some p =>
   simp only
   unfold nI
   split
   ·rename_i b ver hx
    simp only [hx]
    cases st.h[b]? with
    | none=>rfl
    | some k=>simp only;split <;> rfl
   ·rename_i e' l hx
    simp only [hx]
    split
    ·cases l[p.2.toNat]? <;> rfl
    ·rfl
   ·rename_i e' l hx
    simp only [hx]
    split
    ·cases l[p.2.toNat]? <;> rfl
    ·rfl
   ·rename_i n b ver i' off hx
    simp only [hx]
    cases st.h[b]? with
    | none=>rfl
    | some k=>simp only;split <;> rfl
   ·rename_i n l hx
    simp only [hx]
    split <;> rfl
   ·rename_i h1 h2 h3 h4 h5
    simp only [Option.map_none]
 | cutc e x lo hi mx =>
  cases mx with
  | some m=>rfl
  | none=>simp only [cev,cstep,Option.map_none,cutc_cut]
 | slice e x lo hi mx =>
  cases mx with
  | some m=>rfl
  | none =>
   simp only [cev]
   cases hc:UI e (st.ev x) (lo.map st.ev) (hi.map st.ev) with
   | none=>rfl
   | some v =>
    unfold UI at hc
    simp only [cstep]
    split at hc
    ·rename_i e' l hx
     simp only [hx]
     split at hc
     ·rename_i he
      rw [if_pos he]
      simp only [CA,AA] at hc
      obtain ⟨h,hh,lw,hlw,rfl⟩:=hc
      simp only [hh,hlw,Option.bind_some,Option.map_some]
     ·cases hc
    ·rename_i hx
     simp only [hx,Option.isNone_none,if_true]
     simp only [CA,AA] at hc
     obtain ⟨h,hh,lw,hlw,rfl⟩:=hc
     simp only [hh,Option.bind_some]
     have:h = 0:=by
      unfold ND at hh
      split at hh
      ·simpa using hh.symm
      ·split at hh
       ·split at hh
        ·simp only [BA] at hh;omega
        ·cases hh
       ·cases hh
     subst this
     simp only [hlw,Option.map_some]
    ·cases hc
 | _=>rfl
def CJ [Glb] (P:Program) (opn:List FuncId) (st:St) (op:COp) (K:AV -> List Blk -> Prop):Prop :=
 match op with
 | .callf f args=>∃ av h',XH P opn st.t st.h (.callf f args) av h' /\ K av h'
 | op=>match cev st op with | some p=>K p.1 p.2 | none=>False
def dC [Glb] (P:Program) (opn:List FuncId):List CO -> St -> (St -> Prop) -> Prop
 | [],st,K=>K st
 | o :: os,st,K =>
  match o.guard with
  | none =>
   match o.op with
   | .callf f args=>∃ av h',XH P opn st.t st.h (.callf f args) av h' /\ dC P opn os ⟨VC st.t o.dst av,h'⟩ K
   | op=>match cev st op with | some p=>dC P opn os ⟨VC st.t o.dst p.1,p.2⟩ K | none=>False
  | some (x,want) =>
   match tD st x want with
   | none=>False
   | some g=>if g = SA then
     match o.op with
     | .callf f args=>∃ av h',XH P opn st.t st.h (.callf f args) av h' /\ dC P opn os ⟨VC st.t o.dst av,h'⟩ K
     | op=>match cev st op with | some p=>dC P opn os ⟨VC st.t o.dst p.1,p.2⟩ K | none=>False
    else dC P opn os ⟨VC st.t o.dst (.tup []),st.h⟩ K
theorem TQ {op:COp} {K:AV -> List Blk -> Prop} (h:CJ P opn st op K):∃ av h',XH P opn st.t st.h op av h' /\ K av h':=by
 cases op with
 | callf f args=>exact h
 | _ =>
  simp only [CJ,cev_eq] at h
  split at h
  ·rename_i p hs
   exact ⟨p.1,p.2,hs,h⟩
  ·exact h.elim
theorem BC {o:CO} {os:List CO} {K:St -> Prop}:dC P opn (o :: os) st K = (match o.guard with
  | none=>CJ P opn st o.op (fun av h'=>dC P opn os ⟨VC st.t o.dst av,h'⟩ K)
  | some (x,want)=>match tD st x want with
   | none=>False
   | some g=>if g = SA then CJ P opn st o.op (fun av h'=>dC P opn os ⟨VC st.t o.dst av,h'⟩ K) else dC P opn os ⟨VC st.t o.dst (.tup []),st.h⟩ K):=rfl
theorem sG:∀ {cos:List CO} {st:St} {K:St -> Prop},dC P opn cos st K -> ∃ st',rD P opn cos st st' /\ K st'
 | [],st,K,h=>⟨st,rfl,h⟩
 | o :: os,st,K,h=>by
  rw [BC] at h
  cases hg:o.guard with
  | none =>
   rw [hg] at h
   obtain ⟨av,h',hv,hk⟩:=TQ h
   obtain ⟨st',hr,hK⟩:=sG hk
   refine ⟨st',⟨_,⟨av,h',?_,rfl⟩,hr⟩,hK⟩
   unfold OV
   rw [hg]
   exact hv
  | some p =>
   obtain ⟨x,want⟩:=p
   rw [hg] at h
   simp only at h
   cases hw:tD st x want with
   | none=>rw [hw] at h;exact h.elim
   | some g =>
    rw [hw] at h
    cases g with
    | true =>
     obtain ⟨av,h',hv,hk⟩:=TQ h
     obtain ⟨st',hr,hK⟩:=sG hk
     refine ⟨st',⟨_,⟨av,h',?_,rfl⟩,hr⟩,hK⟩
     unfold OV
     rw [hg]
     exact ⟨SA,hw,fun _=>hv,fun e=>by cases e⟩
    | false =>
     obtain ⟨st',hr,hK⟩:=sG h
     refine ⟨st',⟨_,⟨.tup [],st.h,?_,rfl⟩,hr⟩,hK⟩
     unfold OV
     rw [hg]
     exact ⟨TA,hw,(fun e=>by cases e),fun _=>⟨rfl,rfl⟩⟩
def fL (N:St -> Prop) (Q:Exit -> St -> Prop):Exit -> St -> Prop
 | .normal,st=>N st
 | e,st=>Q e st
def aE (id:Nat) (Q:Exit -> St -> Prop):Exit -> St -> Prop
 | .exit id',st=>if id' = id then Q .normal st else Q (.exit id') st
 | e,st=>Q e st
def cH (Q:Exit -> St -> Prop):Exit -> St -> Prop
 | .goto _,_=>False
 | e,st=>Q e st
def waitG (g:Bool) (st:St):St:=if g then ⟨st.t,st.h ++ [TN]⟩ else st
theorem awp_seq {x y:CC} {Q:Exit -> St -> Prop} (h:uD P opn n0 x (fL (uD P opn n0 y Q) Q) st):uD P opn n0 (.seq x y) Q st:=by
 intro code hc X n hd a w hX r
 cases code with
 | seq cx cy =>
  simp only [ZA] at hc
  split at hc
  ·rename_i a' b' h1 h2
   simp only [BA,CC.seq.injEq] at hc
   obtain ⟨rfl,rfl⟩:=hc
   refine wpIn_seq (wpIn_mono (h cx h1 X n hd a w hX r) ?_)
   rintro e a' w' ⟨s,hd',q,r'⟩
   cases e with
   | normal=>exact q cy h2 X n hd' a' w' hX r'
   | _=>exact ⟨s,hd',q,r'⟩
  ·cases hc
 | region id ops drawn=>simp only [ZA] at hc;rcases eE hc with ⟨_,h⟩ | ⟨_,_,h⟩ <;> cases h
 | cond c x y=>simp only [ZA] at hc;split at hc <;> cases hc
 | block id c=>simp [ZA] at hc
 | scope c=>simp [ZA] at hc
 | loop c=>simp [ZA] at hc
 | rangeFunc g ps a b=>simp only [ZA] at hc;split at hc <;> cases hc
 | _=>cases hc
theorem awp_reg (hm:P.follows .mixedOrders = SA) {Q:Exit -> St -> Prop} (h:dC P opn cos st (Q .normal)):uD P opn n0 (.reg cos) Q st:=by
 intro code hc X n hd a w hX r
 obtain ⟨st',hr,hK⟩:=sG h
 cases code with
 | region id ops drawn =>
  simp only [ZA,regCC] at hc
  split at hc
  ·rename_i cos' hm'
   have hall:=ZQ hm'
   split at hc
   ·rename_i hdr
    simp only [BA,CC.reg.injEq] at hc
    subst hc
    cases drawn with
    | false=>exact region_ok hall r hr (fun hd' a' w' r'=>⟨st',hd',hK,r'⟩)
    | true=>exact vR hm hall (by simpa using hdr) r hr (fun hd' a' w' r'=>⟨st',hd',hK,r'⟩)
   ·split at hc
    ·cases hc
    ·split at hc
     ·cases hc
     ·split at hc
      ·cases hc
      ·split at hc <;> cases hc
  ·cases hc
 | seq x y=>simp only [ZA] at hc;split at hc <;> cases hc
 | cond c x y=>simp only [ZA] at hc;split at hc <;> cases hc
 | block id c=>simp [ZA] at hc
 | scope c=>simp [ZA] at hc
 | loop c=>simp [ZA] at hc
 | rangeFunc g ps a b=>simp only [ZA] at hc;split at hc <;> cases hc
 | _=>cases hc
theorem vary_ok {nf:Bool} {keep:List Operand -> Bool} {c:COp}:vary c (eP nf keep c):=by
 cases c with
 | slice e x lo hi mx=>exact .inr (.inl ⟨e,x,lo,hi,mx,rfl,rfl⟩)
 | mkrow ty e ps =>
  simp only [eP]
  split
  ·exact .inl rfl
  ·exact .inr (.inr (.inl ⟨ty,e,ps,rfl,rfl⟩))
 | new ty zs =>
  simp only [eP]
  split
  ·exact .inr (.inr (.inr (.inl ⟨ty,zs,rfl,rfl⟩)))
  ·exact .inl rfl
 | _=>exact .inl rfl
theorem vary_all {ops:Array Oper} {cos:List CO} (h:pE P ops cos):allV P ops (XG cos):=by
 refine ⟨by unfold XG;rw [eA];exact h.1,fun i o co ho hco=>?_⟩
 unfold XG at hco
 rw [List.getElem?_map] at hco
 cases hq:cos[i]? with
 | none=>simp [hq] at hco
 | some c =>
  simp only [hq,Option.map_some,BA] at hco
  subst hco
  obtain ⟨h1,h2,h3⟩:=h.2 i o c ho hq
  exact ⟨h1,⟨c.op,h2,vary_ok⟩,h3⟩
theorem vary_all2 {ops:Array Oper} {cos:List CO} (h:pE P ops cos):allV P ops (DI cos):=by
 refine ⟨by unfold DI;rw [eA];exact h.1,fun i o co ho hco=>?_⟩
 unfold DI at hco
 rw [List.getElem?_map] at hco
 cases hq:cos[i]? with
 | none=>simp [hq] at hco
 | some c =>
  simp only [hq,Option.map_some,BA] at hco
  subst hco
  obtain ⟨h1,h2,h3⟩:=h.2 i o c ho hq
  cases hop:c.op with
  | make ty e b zs l x=>exact ⟨h1,⟨c.op,h2,by rw [hop];exact .inr (.inr (.inr (.inr (.inl ⟨ty,e,b,zs,l,x,rfl,rfl⟩))))⟩,h3⟩
  | _=>exact ⟨h1,⟨c.op,h2,by rw [hop];exact vary_ok (nf:=(cos.filter isNew).length == 1) (keep:=fedApp cos)⟩,h3⟩
theorem vary_all3 {ops:Array Oper} {cos:List CO} (h:pE P ops cos):allV P ops (CI cos):=by
 refine ⟨by unfold CI;rw [eA];exact h.1,fun i o co ho hco=>?_⟩
 unfold CI at hco
 rw [List.getElem?_map] at hco
 cases hq:cos[i]? with
 | none=>simp [hq] at hco
 | some c =>
  simp only [hq,Option.map_some,BA] at hco
  subst hco
  obtain ⟨h1,h2,h3⟩:=h.2 i o c ho hq
  cases hop:c.op with
  | load n ag x=>exact ⟨h1,⟨c.op,h2,by rw [hop];exact .inr (.inr (.inr (.inr (.inr (.inl ⟨n,ag,x,rfl,rfl⟩)))))⟩,h3⟩
  | faddr off x=>exact ⟨h1,⟨c.op,h2,by rw [hop];exact .inr (.inr (.inr (.inr (.inr (.inr ⟨off,x,rfl,rfl⟩)))))⟩,h3⟩
  | _=>exact ⟨h1,⟨c.op,h2,by rw [hop];exact .inl rfl⟩,h3⟩
theorem awp_regn (hm:P.follows .mixedOrders = SA) {g:Bool} {Q:Exit -> St -> Prop} (h:dC P opn cos (waitG g st) (Q .normal)):uD P opn n0 (.regn g cos) Q st:=by
 intro code hc X n hd a w hX r
 obtain ⟨st',hr,hK⟩:=sG h
 cases code with
 | region id ops drawn =>
  simp only [ZA,regCC] at hc
  split at hc
  ·rename_i cos' hm'
   have hall:=ZQ hm'
   split at hc
   ·cases hc
   ·rename_i hdr
    have hd1:drawn = SA:=by
     cases drawn with
     | true=>rfl
     | false=>simp at hdr
    subst hd1
    split at hc
    ·rename_i hok
     simp only [BA,CC.regn.injEq] at hc
     obtain ⟨rfl,rfl⟩:=hc
     exact kI hm (vary_all hall) hok r hr (fun hd' a' w' r'=>⟨st',hd',hK,r'⟩)
    ·split at hc
     ·rename_i hok
      simp only [BA,CC.regn.injEq] at hc
      obtain ⟨rfl,rfl⟩:=hc
      exact kI hm (vary_all hall) hok r hr (fun hd' a' w' r'=>⟨st',hd',hK,r'⟩)
     ·split at hc
      ·rename_i hok
       simp only [BA,CC.regn.injEq] at hc
       obtain ⟨rfl,rfl⟩:=hc
       exact kI hm (vary_all2 hall) hok r hr (fun hd' a' w' r'=>⟨st',hd',hK,r'⟩)
      ·split at hc
       ·rename_i hok
        simp only [BA,CC.regn.injEq] at hc
        obtain ⟨rfl,rfl⟩:=hc
        exact kI hm (vary_all3 hall) hok r hr (fun hd' a' w' r'=>⟨st',hd',hK,r'⟩)
       ·cases hc
  ·cases hc
 | seq x y=>simp only [ZA] at hc;split at hc <;> cases hc
 | cond c x y=>simp only [ZA] at hc;split at hc <;> cases hc
 | block id c=>simp [ZA] at hc
 | scope c=>simp [ZA] at hc
 | loop c=>simp [ZA] at hc
 | rangeFunc g ps a b=>simp only [ZA] at hc;split at hc <;> cases hc
 | _=>cases hc
theorem awp_cond {c:Operand} {x y:CC} {t:Bool} {Q:Exit -> St -> Prop} (hv:st.ev c = .one (.c (.val (.bool t)))) (h1:t = SA -> uD P opn n0 x Q st) (h2:t = TA -> uD P opn n0 y Q st):uD P opn n0 (.cond c x y) Q st:=by
 intro code hc X n hd a w hX r
 cases code with
 | cond c' cx cy =>
  simp only [ZA] at hc
  split at hc
  ·rename_i a' b' e1 e2
   simp only [BA,CC.cond.injEq] at hc
   obtain ⟨rfl,rfl,rfl⟩:=hc
   have hs:=r.sees c'
   rw [hv] at hs
   refine wpIn_cond_split hs.val (fun ht=>h1 ht cx e1 X n hd a w hX r) (fun ht=>h2 ht cy e2 X n hd a w hX r)
  ·cases hc
 | region id ops drawn=>simp only [ZA] at hc;rcases eE hc with ⟨_,h⟩ | ⟨_,_,h⟩ <;> cases h
 | seq c x=>simp only [ZA] at hc;split at hc <;> cases hc
 | block id c=>simp [ZA] at hc
 | scope c=>simp [ZA] at hc
 | loop c=>simp [ZA] at hc
 | rangeFunc g ps a b=>simp only [ZA] at hc;split at hc <;> cases hc
 | _=>cases hc
theorem awp_block {id:Nat} {c:CC} {Q:Exit -> St -> Prop} (h:uD P opn n0 c (aE id Q) st):uD P opn n0 (.block id c) Q st:=by
 intro code hc X n hd a w hX r
 cases code with
 | block id' c' =>
  simp only [ZA,AA] at hc
  obtain ⟨c0,h0,h1⟩:=hc
  cases h1
  refine wpIn_block (wpIn_mono (h c' h0 X n hd a w hX r) ?_)
  rintro e a' w' ⟨s,hd',q,r'⟩
  cases e with
  | exit id'' =>
   show if _ then _ else _
   simp only [aE] at q
   split
   ·rename_i hid;rw [if_pos hid] at q;exact ⟨s,hd',q,r'⟩
   ·rename_i hid;rw [if_neg hid] at q;exact ⟨s,hd',q,r'⟩
  | _=>exact ⟨s,hd',q,r'⟩
 | region id ops drawn=>simp only [ZA] at hc;rcases eE hc with ⟨_,h⟩ | ⟨_,_,h⟩ <;> cases h
 | seq c x=>simp only [ZA] at hc;split at hc <;> cases hc
 | cond c x y=>simp only [ZA] at hc;split at hc <;> cases hc
 | scope c=>simp [ZA] at hc
 | loop c=>simp [ZA] at hc
 | rangeFunc g ps a b=>simp only [ZA] at hc;split at hc <;> cases hc
 | _=>cases hc
section
variable {b:Frame} {k:List Item} {cs:List Frame}
theorem HF {c:Code}:step P (lone (b.atR a (.code (.scope c) :: k)) cs w) = .next (lone (b.atR a (.code c :: .inScope c :: k)) cs w) :=
 step_lone_go (by simp [stepG,stepG.exec,Frame.atR])
theorem tR {c:Code}:step P (lone (b.atR a (.inScope c :: k)) cs w) = .next (lone (b.atR a k) cs w) :=
 step_lone_go (by simp [stepG,stepG.exec,Frame.atR])
end
theorem wpIn_scope {F:Fence} {n:Nat} {c:Code} {Q:Exit -> Act -> World -> Prop} (h:c.wpIn F n P (Exit.noGoto Q) a w):(Code.scope c).wpIn F n P Q a w:=by
 intro b k cs hro hb hr
 have h0:(lone (b.atR a (.code (.scope c) :: k)) cs w).fenced P F:=fenced_calm hb hr rfl
 obtain ⟨e,a₁,w₁,hq,harr⟩:=h b (.inScope c :: k) cs hro hb hr
 cases e with
 | normal=>exact ⟨.normal,a₁,w₁,hq,.head h0 HF (StepsIn.trans harr (.one (fenced_calm hb hr rfl) tR))⟩
 | exit id =>
  have hx:exitTo id (.inScope c :: k) = exitTo id k:=by simp [exitTo]
  exact ⟨.exit id,a₁,w₁,hq,fun k' hk=>.head h0 HF (harr.1 k' (by rw [hx];exact hk)),
   fun hr' hk=>let ⟨k₁,h1,h2⟩:=harr.2 hr' (by rw [hx];exact hk);⟨k₁,h1,.head h0 HF h2⟩⟩
 | goto l=>exact hq.elim
 | ret=>exact ⟨_,a₁,w₁,hq,.of_steps (.one h0 HF) harr⟩
 | panic ch=>exact ⟨_,a₁,w₁,hq,.of_steps (.one h0 HF) harr⟩
 | outgrown=>exact ⟨_,a₁,w₁,hq,.of_steps (.one h0 HF) harr⟩
theorem awp_scope {c:CC} {Q:Exit -> St -> Prop} (h:uD P opn n0 c (cH Q) st):uD P opn n0 (.scope c) Q st:=by
 intro code hc X n hd a w hX r
 cases code with
 | scope c' =>
  simp only [ZA,AA] at hc
  obtain ⟨c0,h0,h1⟩:=hc
  cases h1
  refine wpIn_scope (wpIn_mono (h c' h0 X n hd a w hX r) ?_)
  rintro e a' w' ⟨s,hd',q,r'⟩
  cases e with
  | goto l=>exact q
  | _=>exact ⟨s,hd',q,r'⟩
 | region id ops drawn=>simp only [ZA] at hc;rcases eE hc with ⟨_,h⟩ | ⟨_,_,h⟩ <;> cases h
 | seq c x=>simp only [ZA] at hc;split at hc <;> cases hc
 | cond c x y=>simp only [ZA] at hc;split at hc <;> cases hc
 | block id c=>simp [ZA] at hc
 | loop c=>simp [ZA] at hc
 | rangeFunc g ps a b=>simp only [ZA] at hc;split at hc <;> cases hc
 | _=>cases hc
theorem awp_skip {Q:Exit -> St -> Prop} (h:Q .normal st):uD P opn n0 .skip Q st:=by
 intro code hc X n hd a w hX r
 cases code with
 | skip=>exact wpIn_skip ⟨st,hd,h,r⟩
 | label l=>exact wpIn_label ⟨st,hd,h,r⟩
 | region id ops drawn=>simp only [ZA] at hc;rcases eE hc with ⟨_,h⟩ | ⟨_,_,h⟩ <;> cases h
 | seq c x=>simp only [ZA] at hc;split at hc <;> cases hc
 | cond c x y=>simp only [ZA] at hc;split at hc <;> cases hc
 | block id c=>simp [ZA] at hc
 | scope c=>simp [ZA] at hc
 | loop c=>simp [ZA] at hc
 | rangeFunc g ps a b=>simp only [ZA] at hc;split at hc <;> cases hc
 | _=>cases hc
theorem awp_exit {id:Nat} {Q:Exit -> St -> Prop} (h:Q (.exit id) st):uD P opn n0 (.exit id) Q st:=by
 intro code hc X n hd a w hX r
 cases code with
 | exit id'=>simp only [ZA,BA,CC.exit.injEq] at hc;subst hc;exact wpIn_exit ⟨st,hd,h,r⟩
 | region id ops drawn=>simp only [ZA] at hc;rcases eE hc with ⟨_,h⟩ | ⟨_,_,h⟩ <;> cases h
 | seq c x=>simp only [ZA] at hc;split at hc <;> cases hc
 | cond c x y=>simp only [ZA] at hc;split at hc <;> cases hc
 | block id c=>simp [ZA] at hc
 | scope c=>simp [ZA] at hc
 | loop c=>simp [ZA] at hc
 | rangeFunc g ps a b=>simp only [ZA] at hc;split at hc <;> cases hc
 | _=>cases hc
theorem awp_ret {Q:Exit -> St -> Prop} (h:Q .ret st):uD P opn n0 .ret Q st:=by
 intro code hc X n hd a w hX r
 cases code with
 | ret=>exact wpIn_ret ⟨st,hd,h,r⟩
 | region id ops drawn=>simp only [ZA] at hc;rcases eE hc with ⟨_,h⟩ | ⟨_,_,h⟩ <;> cases h
 | seq c x=>simp only [ZA] at hc;split at hc <;> cases hc
 | cond c x y=>simp only [ZA] at hc;split at hc <;> cases hc
 | block id c=>simp [ZA] at hc
 | scope c=>simp [ZA] at hc
 | loop c=>simp [ZA] at hc
 | rangeFunc g ps a b=>simp only [ZA] at hc;split at hc <;> cases hc
 | _=>cases hc
end Go.Am
namespace Go.Am
open Go.RowKit
variable {GL:Glb}
variable {P:Program} {opn:List FuncId} {w w':World} {M0:Nat -> Prop} {h h0 h1 h2 h':List Blk} {hd hd':Nat -> Value} {B0:Nat} {bad bad':Nat -> Prop} {X:Ctx} {st st':St} {a:Act} {t t' t2:List AV}
 {ops:Array Oper} {cos:List CO} {rd:Option Nat} {n n0:Nat}
def TB [Glb] (n0:Nat) (st st':St):Prop :=
 ∀ (X:Ctx) (hd:Nat -> Value) (a:Act) (w:World),X.h0.length = n0 -> Rel X st hd a w -> ∃ hd',Rel X st' hd' a w
theorem TB.refl (st:St):TB n0 st st:=fun X hd a w _ r=>⟨hd,r⟩
theorem TB.trans {s1 s2 s3:St} (a:TB n0 s1 s2) (b:TB n0 s2 s3):TB n0 s1 s3:=fun X hd c w hX r=>by
 obtain ⟨hd1,r1⟩:=a X hd c w hX r
 exact b X hd1 c w hX r1
theorem uD.fgt {cc:CC} {Q:Exit -> St -> Prop} (h:uD P opn n0 cc Q st') (hf:TB n0 st st'):uD P opn n0 cc Q st:=fun code hc X n hd a w hX r=>by
 obtain ⟨hd',r'⟩:=hf X hd a w hX r
 exact h code hc X n hd' a w hX r'
def clean1 (n:Nat):Cell -> Cell
 | .own b v=>if b < n then .own b v else .junk
 | .ptr b v i o=>if b < n then .ptr b v i o else .junk
 | .fn _ _=>.junk
 | .mfn _ _=>.junk
 | x=>x
def XA (n:Nat):Cell -> Cell
 | .fn f caps=>.fn f (caps.map (clean1 n))
 | x=>clean1 n x
def lB (n:Nat):AV -> AV
 | .one x=>.one (XA n x)
 | .agg l=>.agg (l.map (XA n))
 | _=>.junk
def uB (n:Nat) (k:Blk):Blk:={ k with els:=k.els.map (·.map (XA n)) }
def iR (n:Nat) (dead:List Nat) (t:List AV):List AV:=t.mapIdx fun i x=>if dead.contains i then .junk else lB n x
def norm (n:Nat) (dead:List Nat) (st:St):St:=⟨iR n dead st.t,(st.h.take n).map (uB n)⟩
theorem VR.clean1 (hh:∀ (b:Nat) (k:Blk),b < n -> h[b]? = PA k -> ∃ k',h'[b]? = PA k' /\ k'.ver = k.ver /\ k'.e = k.e) (hb:∀ g,bad' g -> bad g) {x:Cell} {v:Value} (hx:VR w bad h hd x v):VR w bad' h' hd (Am.clean1 n x) v:=by
 cases hx with
 | c x v hx=>exact .c x v (hx.tr (fun _ _ _=>rfl) (fun g hg _ hbg=>hg (hb g hbg)) (EA _))
 | own b blk hb' h1 =>
  simp only [Am.clean1]
  split
  ·rename_i hlt
   obtain ⟨k',hk',hv',he'⟩:=hh b blk hlt hb'
   rw [<- hv']
   exact .own b k' hk' h1
  ·exact .junk _ h1
 | ownStale b ver blk v hb' hv h1 =>
  simp only [Am.clean1]
  split
  ·rename_i hlt
   obtain ⟨k',hk',hv',he'⟩:=hh b blk hlt hb'
   exact .ownStale b ver k' v hk' (by omega) h1
  ·exact .junk _ h1
 | ptr b i off blk g m cap hb' hhd =>
  simp only [Am.clean1]
  split
  ·rename_i hlt
   obtain ⟨k',hk',hv',he'⟩:=hh b blk hlt hb'
   rw [<- hv',<- he']
   exact .ptr b i off k' g m cap hk' hhd
  ·exact .junk _ rfl
 | ptrStale b ver i off blk v hb' hv h1 =>
  simp only [Am.clean1]
  split
  ·rename_i hlt
   obtain ⟨k',hk',hv',he'⟩:=hh b blk hlt hb'
   exact .ptrStale b ver i off k' v hk' (by omega) h1
  ·exact .junk _ h1
 | iptr l g off f hbad hlt hc hv=>exact .iptr l g off f (fun hg=>hbad (hb g hg)) hlt hc (fun j x hj=>(hv j x hj).tr (fun _ _ _=>rfl) (fun g hg _ hbg=>hg (hb g hbg)) (EA _))
 | fn f caps vs hl hv=>exact .junk _ rfl
 | mfn f c v hv=>exact .junk _ rfl
 | slx e l g off hx=>exact .slx e l g off (hx.tr (fun _ _ _=>rfl) (fun g hg _ hbg=>hg (hb g hbg)) (EA _))
 | junk v h1=>exact .junk v h1
theorem VR.clean (hh:∀ (b:Nat) (k:Blk),b < n -> h[b]? = PA k -> ∃ k',h'[b]? = PA k' /\ k'.ver = k.ver /\ k'.e = k.e) (hb:∀ g,bad' g -> bad g) {x:Cell} {v:Value} (hx:VR w bad h hd x v):VR w bad' h' hd (XA n x) v:=by
 cases hx with
 | fn f caps vs hl hv =>
  refine .fn f _ vs (by simpa using hl) (fun i c v h1 h2=>?_)
  rw [List.getElem?_map] at h1
  cases hq:caps[i]? with
  | none=>simp [hq] at h1
  | some q=>simp [hq] at h1;subst h1;exact (hv i q v hq h2).clean1 hh hb
 | c x v hx=>exact VR.clean1 hh hb (.c x v hx)
 | own b blk hb' h1=>exact VR.clean1 hh hb (.own b blk hb' h1)
 | ownStale b ver blk v hb' hv h1=>exact VR.clean1 hh hb (.ownStale b ver blk v hb' hv h1)
 | ptr b i off blk g m cap hb' hhd=>exact VR.clean1 hh hb (.ptr b i off blk g m cap hb' hhd)
 | ptrStale b ver i off blk v hb' hv h1=>exact VR.clean1 hh hb (.ptrStale b ver i off blk v hb' hv h1)
 | iptr l g off f hbad hlt hc hv=>exact VR.clean1 hh hb (.iptr l g off f hbad hlt hc hv)
 | mfn f c v hv=>exact VR.clean1 hh hb (.mfn f c v hv)
 | slx e l g off hx=>exact VR.clean1 hh hb (.slx e l g off hx)
 | junk v h1=>exact VR.clean1 hh hb (.junk v h1)
theorem AVR.clean (hh:∀ (b:Nat) (k:Blk),b < n -> h[b]? = PA k -> ∃ k',h'[b]? = PA k' /\ k'.ver = k.ver /\ k'.e = k.e) (hb:∀ g,bad' g -> bad g) {x:AV} {v:Value} (hx:AVR w bad h hd x v):AVR w bad' h' hd (lB n x) v:=by
 cases hx with
 | one x v hx=>exact .one _ _ (hx.clean hh hb)
 | agg l vs hl hv =>
  refine .agg _ vs (by simpa using hl) (fun i c v h1 h2=>?_)
  rw [List.getElem?_map] at h1
  cases hq:l[i]? with
  | none=>simp [hq] at h1
  | some q=>simp [hq] at h1;subst h1;exact (hv i q v hq h2).clean hh hb
 | tup l vs hl hv=>exact .junk _
 | junk v=>exact .junk v
theorem lK {n:Nat} {h:List Blk} {b:Nat} {k':Blk} (hk:((h.take n).map (uB n))[b]? = PA k'):∃ k,h[b]? = PA k /\ b < n /\ k' = uB n k:=by
 rw [List.getElem?_map,List.getElem?_take] at hk
 split at hk
 ·cases hq:h[b]? with
  | none=>simp [hq] at hk
  | some q=>simp [hq] at hk;exact ⟨q,rfl,by assumption,hk.symm⟩
 ·cases hk
theorem TB.norm (hn:n0 <= n) (dead:List Nat) (st:St):TB n0 st (norm n dead st):=by
 intro X hd a w hX r
 refine ⟨hd,?_⟩
 have hh:∀ (b:Nat) (k:Blk),b < n -> st.h[b]? = PA k -> ∃ k',((st.h.take n).map (uB n))[b]? = PA k' /\ k'.ver = k.ver /\ k'.e = k.e:=fun b k hb hk =>
  ⟨uB n k,by rw [List.getElem?_map,List.getElem?_take,if_pos hb,hk];rfl,rfl,rfl⟩
 have hb:∀ g,iB X.M0 ((st.h.take n).map (uB n)) hd g -> iB X.M0 st.h hd g:=fun g hg=>by
  rcases hg with hm | ⟨b,k,hk,hl,hg⟩
  ·exact .inl hm
  ·obtain ⟨k0,hk0,_,rfl⟩:=lK hk
   exact .inr ⟨b,k0,hk0,hl,hg⟩
 refine ⟨r.below,⟨?_,fun i c v hc hv=>?_⟩,⟨fun b k hk=>?_,fun b k hk=>?_,fun b b' k k' hk hk' hl hne g hg=>?_⟩,⟨r.tr.blk,fun g hg hl hbg=>r.tr.ok g hg hl (hb g hbg),r.tr.size,fun b k hk=>?_⟩,r.keeps,r.big,r.marks⟩
 ·rw [<- r.slots.1];simp [Am.norm,iR]
 ·simp only [Am.norm,iR,List.getElem?_mapIdx] at hc
  cases hq:st.t[i]? with
  | none=>simp [hq] at hc
  | some q =>
   simp only [hq,Option.map_some,BA] at hc
   subst hc
   split
   ·exact .junk _
   ·exact (r.slots.2 i q v hq hv).clean hh hb
 ·obtain ⟨k0,hk0,hlt,rfl⟩:=lK hk
  obtain ⟨h1,xs,ho,hx⟩:=r.heap.blk b k0 hk0
  refine ⟨fun i q hi=>?_,xs,?_,fun i c v hc hv=>?_⟩
  ·simp only [uB,List.getElem?_map] at hi ⊢
   cases hq:k0.els[i]? with
   | none=>simp [hq] at hi
   | some q'=>simp [hq] at hi;subst hi;simpa using h1 i q' hq
  ·simpa [uB] using ho
  ·simp only [uB] at hc
   rw [<- List.map_flatten,List.getElem?_map] at hc
   cases hq:k0.els.flatten[i]? with
   | none=>simp [hq] at hc
   | some q'=>simp [hq] at hc;subst hc;exact (hx i q' v hq hv).clean hh hb
 ·obtain ⟨k0,hk0,hlt,rfl⟩:=lK hk
  exact r.heap.nn b k0 hk0
 ·obtain ⟨k0,hk0,hlt,rfl⟩:=lK hk
  obtain ⟨k0',hk0',hlt',rfl⟩:=lK hk'
  exact r.heap.apart b b' k0 k0' hk0 hk0' hl hne g hg
 ·obtain ⟨k',hk',hc⟩:=r.tr.own b k hk
  have hlt:b < n:=HA (hX ▸ (dA.1 hk).1) hn
  obtain ⟨k'',hk'',hv,he⟩:=hh b k' hlt hk'
  refine ⟨k'',hk'',?_⟩
  rw [hv,he]
  exact hc
theorem TB.freeze (ids:List Nat) (st:St):TB n0 st ⟨st.t,freeze ids st.h⟩:=fun X hd a w hX r =>
 ⟨hd,r.below,r.slots.mono (fun c v hc=>hc.tr (Tr.freeze ids)),r.heap.freeze ids,r.tr.trans (Tr.freeze ids),r.keeps,r.big,r.marks⟩
theorem TB.close {i:Nat} {x y:AV} (hi:st.t[i]? = PA x) (hc:VB st.h 3 x = PA y):TB n0 st ⟨st.t.set i y,Am.freeze (kC st.h 3 x) st.h⟩:=fun X hd a w hX r=>by
 refine ⟨hd,r.below,?_,r.heap.freeze _,r.tr.trans (Tr.freeze _),r.keeps,r.big,r.marks⟩
 have hs:PW (AVR w (iB X.M0 (Am.freeze (kC st.h 3 x) st.h) hd) (Am.freeze (kC st.h 3 x) st.h) hd) st.t a.tmps.toList:=r.slots.mono (fun c v hc=>hc.tr (Tr.freeze _))
 refine ⟨by simpa using hs.1,fun j c v hj hv=>?_⟩
 rw [List.getElem?_set] at hj
 by_cases e:i = j
 ·subst e
  rw [if_pos rfl] at hj
  split at hj
  ·simp only [BA] at hj
   subst hj
   exact (LL r.heap X.hM0 _ 3 hc (fun b hb=>hb) (r.slots.2 i x v hi hv)).lift _ _
  ·cases hj
 ·rw [if_neg e] at hj
  exact hs.2 j c v hj hv
theorem TB.openNil {i:Nat} (hi:st.t[i]? = PA (.one (.c (.val (.slice QA 0 0))))) (ty:TypeId) (e:Nat):TB n0 st ⟨st.t.set i (.one (.own st.h.length 0)),st.h ++ [⟨0,ty,e,[],SA,TA⟩]⟩:=fun X hd a w hX r=>by
 have hg:=PC w QA
 obtain ⟨H',T⟩:=r.heap.new hg (v:=.slice QA 0 0) (k:=⟨0,ty,e,[],SA,TA⟩) (xs:=[]) (fun i r h=>by simp at h) ⟨by simp,.inl ⟨rfl,rfl⟩⟩ (fun i c u h=>by simp at h) (fun g h=>by simp [Value.ownBlock] at h) r.M0_lt (by simp)
 refine ⟨_,r.below,?_,H',r.tr.trans T,r.keeps,r.big,r.marks⟩
 have hs:=r.slots.mono (fun c v hc=>hc.tr T)
 refine ⟨by simpa using hs.1,fun j c v hj hv=>?_⟩
 rw [List.getElem?_set] at hj
 by_cases he:i = j
 ·subst he
  rw [if_pos rfl] at hj
  split at hj
  ·simp only [BA] at hj
   subst hj
   have hv':=(r.slots.2 i _ v hi hv).val
   subst hv'
   have:=VR.own (w:=w) (bad:=iB X.M0 (st.h ++ [⟨0,ty,e,[],SA,TA⟩]) (upd hd st.h.length (.slice QA 0 0))) (hd:=upd hd st.h.length (.slice QA 0 0)) (h:=st.h ++ [⟨0,ty,e,[],SA,TA⟩]) st.h.length ⟨0,ty,e,[],SA,TA⟩ (by simp) (by rw [SC];rfl)
   rw [SC] at this
   exact .one _ _ this
  ·cases hj
 ·rw [if_neg he] at hj
  exact hs.2 j c v hj hv
theorem xB {α:Type} (S:α -> St) (I:α -> Prop) (μ:α -> Nat) {c:CC} {Q:Exit -> St -> Prop} (b0:α) (hI:I b0) (h0:TB n0 st (S b0))
  (hb:∀ b,I b -> uD P opn n0 c (fL (fun s=>∃ b',I b' /\ μ b' < μ b /\ TB n0 s (S b')) Q) (S b)):uD P opn n0 (.loop c) Q st:=by
 intro code hc X n hd a w hX r
 cases code with
 | loop c' =>
  simp only [ZA,AA] at hc
  obtain ⟨c0,hc0,h1⟩:=hc
  cases h1
  obtain ⟨hd',r'⟩:=h0 X hd a w hX r
  have key:∀ (m:Nat) (b:α) (hd:Nat -> Value) (a:Act) (w:World),μ b < m -> I b -> Rel X (S b) hd a w -> Code.roundsIn (Wd X.rd) n P c' (fun e a' w'=>∃ st' hd',Q e st' /\ Rel X st' hd' a' w') m a w:=by
   intro m
   induction m with
   | zero=>intro b hd a w hm;omega
   | succ m ih =>
    intro b hd a w hm hI r
    rw [roundsIn_succ]
    refine wpIn_mono (hb b hI c' hc0 X n hd a w hX r) ?_
    rintro e a' w' ⟨s,hd',q,r'⟩
    cases e with
    | normal =>
     obtain ⟨b',hI',hlt,hf⟩:=q
     obtain ⟨hd'',r''⟩:=hf X hd' a' w' hX r'
     exact ih b' hd'' a' w' (by omega) hI' r''
    | _=>exact ⟨s,hd',q,r'⟩
  exact wpIn_loop_rounds (μ b0 + 1) (key _ b0 hd' a w (Nat.lt_succ_self _) hI r')
 | region id ops drawn=>simp only [ZA] at hc;rcases eE hc with ⟨_,h⟩ | ⟨_,_,h⟩ <;> cases h
 | seq c x=>simp only [ZA] at hc;split at hc <;> cases hc
 | cond c x y=>simp only [ZA] at hc;split at hc <;> cases hc
 | block id c=>simp [ZA] at hc
 | scope c=>simp [ZA] at hc
 | rangeFunc g ps a b=>simp only [ZA] at hc;split at hc <;> cases hc
 | _=>cases hc
end Go.Am
