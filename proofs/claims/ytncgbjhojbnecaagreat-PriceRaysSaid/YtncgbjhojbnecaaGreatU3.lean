/- The abstract memory: a function's contract out of its body. -/
import Derived.BigFrameIn
import Derived.Test.YtncgbjhojbnecaaGreatU2
set_option linter.unusedSimpArgs false
set_option linter.unusedVariables false
set_option linter.unnecessarySimpa false
open Option renaming some -> PA, none -> QA, bind_eq_some_iff -> CA, map_eq_some_iff -> AA
open Nat renaming le_refl -> EA, le_trans -> GA, zero_le -> fN, lt_of_lt_of_le -> HA
open Option.some renaming injEq -> BA
open Bool renaming true -> SA, false -> TA, false_eq_true -> IA
open List renaming getElem?_eq_some_iff -> dA, getElem?_eq_getElem -> aA, length_append -> sA, length_cons -> oA, mem_map -> yA, replicate -> jA, mem_range -> zA
namespace Go.Am
open Go.RowKit
variable {GL:Glb}
variable {P:Program} {opn:List FuncId} {w w' w2:World} {M0:Nat -> Prop} {h h0 h1 h2 h':List Blk} {hd hd':Nat -> Value} {B0:Nat} {bad bad':Nat -> Prop} {X:Ctx} {st st':St} {a:Act} {t t' t2:List AV}
 {ops:Array Oper} {cos:List CO} {rd:Option Nat} {n n0:Nat}
def fD (w w':World):Prop:=w.heap.size <= w'.heap.size /\ ∀ (g:Nat) cs t o,w.heap[g]? = PA (Obj.cells cs t o) -> w'.heap[g]? = PA (Obj.cells cs t o)
theorem fD.refl (w:World):fD w w:=⟨EA _,fun _ _ _ _ h=>h⟩
theorem fD.trans (a:fD w w') (b:fD w' w2):fD w w2:=⟨GA a.1 b.1,fun g cs t o h=>b.2 g cs t o (a.2 g cs t o h)⟩
theorem fD.cell (k:fD w w') {p:Addr} {v:Value} (h:w.cell? p = PA v):w'.cell? p = PA v:=by
 unfold World.cell? at h ⊢
 split at h
 ·rename_i cs t o hg
  rw [k.2 _ _ _ _ hg]
  exact h
 ·cases h
theorem CR.kept (k:fD w w') {x:CV} {v:Value} (h:CR w bad x v):CR w' bad x v:=by
 induction h with
 | val v h=>exact .val v h
 | str s=>exact .str s
 | sl e l g off cap f hcap hbad hlt hrow hc hv ih =>
  exact .sl e l g off cap f hcap hbad (by have:=k.1;omega) hrow (fun i j hi hj=>k.cell (hc i j hi hj)) ih
 | emp e a=>exact .emp e a
theorem VR.kept (k:fD w w') {x:Cell} {v:Value} (hx:VR w bad h hd x v):VR w' bad h hd x v:=by
 induction hx with
 | c x v hx=>exact .c x v (hx.kept k)
 | own b blk hb h1=>exact .own b blk hb h1
 | ownStale b ver blk v hb hv h1=>exact .ownStale b ver blk v hb hv h1
 | ptr b i off blk g n cap hb hh=>exact .ptr b i off blk g n cap hb hh
 | ptrStale b ver i off blk v hb hv h1=>exact .ptrStale b ver i off blk v hb hv h1
 | iptr l g off f hbad hlt hc hv=>exact .iptr l g off f hbad (by have:=k.1;omega) (fun j x hj=>k.cell (hc j x hj)) (fun j x hj=>(hv j x hj).kept k)
 | fn f caps vs hl hv ih=>exact .fn f caps vs hl ih
 | mfn f c v hv ih=>exact .mfn f c v ih
 | slx e l g off hx=>exact .slx e l g off (hx.kept k)
 | junk v h1=>exact .junk v h1
theorem AVR.kept (k:fD w w') {x:AV} {v:Value} (hx:AVR w bad h hd x v):AVR w' bad h hd x v:=by
 induction hx with
 | one x v hx=>exact .one x v (hx.kept k)
 | agg l vs hl hv=>exact .agg l vs hl (fun i c v h1 h2=>(hv i c v h1 h2).kept k)
 | tup l vs hl hv ih=>exact .tup l vs hl ih
 | junk v=>exact .junk v
theorem ownsRow_kept (k:fD w w') {e n:Nat} {ty:TypeId} {v:Value} {xs:List Value} (h:w.ownsRow B0 ty e v n xs):w'.ownsRow B0 ty e v n xs:=by
 refine ⟨h.1,?_⟩
 rcases h.2 with h0 | ⟨g,cap,cur,h1,h2,h3,h4⟩
 ·exact .inl h0
 ·exact .inr ⟨g,cap,cur,h1,h2,k.2 _ _ _ _ h3,h4⟩
theorem HR.kept (k:fD w w') (H:HR B0 M0 w h hd):HR B0 M0 w' h hd :=
 ⟨fun b kb hb=>by
  obtain ⟨h1,xs,ho,hx⟩:=H.blk b kb hb
  exact ⟨h1,xs,ownsRow_kept k ho,fun i c v hc hv=>(hx i c v hc hv).kept k⟩,H.nn,H.apart⟩
theorem MK {fn:Func} {tmps:Array Value} {R:Ending -> World -> Prop} {B1:Nat}:∀ (Ds:List Nat) (w:World),Ds.Nodup -> (∀ D ∈ Ds,B1 <= D /\ w.heap[D]? = PA (.deferred (PA []))) ->
  (∀ w',Below B1 w w' -> fD w w' -> ∃ v,(results fn tmps).run P w' = .ok v w' /\ R (.returned v) w') -> LeavesInM (Wd rd) n P fn tmps R (Ds.map markOf) .returning w
 | [],w,_,_,hR=>hR w (Below.refl _ _) (fD.refl _)
 | D :: Ds,w,hN,hD,hR=>by
  have hD0:=hD D (by simp)
  have hN':=List.nodup_cons.1 hN
  refine ⟨by simp,.inl ⟨D,_,rfl,run_takeDeferred hD0.2,?_⟩⟩
  have hlt:D < w.heap.size:=(Array.getElem?_eq_some_iff.1 hD0.2).1
  have hget:∀ k,k ≠ D -> (w.putObj D (.deferred QA)).heap[k]? = w.heap[k]?:=fun k hk=>by
   simp [World.putObj,Array.getElem?_setIfInBounds_ne (Ne.symm hk)]
  have hbel:Below B1 w (w.putObj D (.deferred QA)):=⟨rfl,rfl,rfl,by simp [World.putObj],fun k hk=>hget k (by omega)⟩
  have hkept:fD w (w.putObj D (.deferred QA)):=⟨by simp [World.putObj],fun g cs t o hg=>by
   rw [hget g (fun e=>by subst e;rw [hD0.2] at hg;cases hg)];exact hg⟩
  refine MK Ds _ hN'.2 (fun D' hD'=>⟨(hD D' (by simp [hD'])).1,?_⟩) (fun w' hb hk=>hR w' (hbel.trans hb) (hkept.trans hk))
  rw [hget D' (fun e=>hN'.1 (e ▸ hD'))]
  exact (hD D' (by simp [hD'])).2
inductive RV where
 | tmp (t:Tmp)
 | cell (a:Tmp) (n:Nat) (ag:Bool)
def uR (P:Program):ResultVar -> Option RV
 | .tmp t=>PA (.tmp t)
 | .cell a t =>
  match rE P t,aggT P t with
  | some n,PA ag=>if ag || n == 1 then PA (.cell a n ag) else QA
  | _,_=>QA
def sJ (st:St):RV -> Option AV
 | .tmp t=>PA (st.ev (.tmp t))
 | .cell a n ag=>(ZF st.h n (st.ev (.tmp a))).bind (OR ag)
def SN (rs:List RV) (st:St):Option AV:=match rs with | [r]=>sJ st r | _=>(rs.mapM (sJ st)).map .tup
theorem rv_ok {rv:ResultVar} {r:RV} (hr:uR P rv = PA r) {av:AV} (hav:sJ st r = PA av) (H:HR B0 M0 w st.h hd) {tmps:Array Value} (hs:∀ t,AVR w (iB M0 st.h hd) st.h hd (st.ev (.tmp t)) (tmps.getD t undef)) :
  ∃ v,(match rv with | .tmp t=>(pure (tmps.getD t undef):Sem Value) | .cell a t=>do loadVar t (<- asAddr (tmps.getD a undef))).run P w = .ok v w /\ AVR w (iB M0 st.h hd) st.h hd av v:=by
 cases rv with
 | tmp t =>
  simp only [uR,BA] at hr
  subst hr
  simp only [sJ,BA] at hav
  subst hav
  exact ⟨_,rfl,hs t⟩
 | cell a t =>
  simp only [uR] at hr
  split at hr
  ·rename_i n ag hn ha
   split at hr
   ·rename_i h1
    simp only [BA] at hr
    subst hr
    simp only [sJ,CA] at hav
    obtain ⟨cs,hcs,hm⟩:=hav
    obtain ⟨hl,g,o,hp,hlies⟩:=DP H (hs a) hcs
    obtain ⟨u,hrun,hu⟩:=JI hn ha hl hlies hm (by simpa using h1)
    refine ⟨u,?_,hu⟩
    show (do loadVar t (<- asAddr (tmps.getD a undef)):Sem Value).run P w = .ok u w
    rw [hp]
    simp only [asAddr,pure_bind]
    exact hrun
   ·cases hr
  ·cases hr
def unV:List Value -> Value
 | [v]=>v
 | l=>.tuple l.toArray
theorem AL {fn:Func} {rs:List RV} (hr:fn.results.toList.mapM (uR P) = PA rs) {av:AV} (hav:SN rs st = PA av) (H:HR B0 M0 w st.h hd) {tmps:Array Value} (hs:∀ t,AVR w (iB M0 st.h hd) st.h hd (st.ev (.tmp t)) (tmps.getD t undef)) :
  ∃ v,(results fn tmps).run P w = .ok v w /\ AVR w (iB M0 st.h hd) st.h hd av v:=by
 have key:∀ (l:List ResultVar) (rs:List RV),l.mapM (uR P) = PA rs -> ∀ avs,rs.mapM (sJ st) = PA avs -> ∃ vs:List Value,(l.mapM (m:=Sem) (fun rv=>match rv with | .tmp t=>(pure (tmps.getD t undef):Sem Value) | .cell a t=>do loadVar t (<- asAddr (tmps.getD a undef)))).run P w = .ok vs w /\ PW (AVR w (iB M0 st.h hd) st.h hd) avs vs:=by
  intro l
  induction l with
  | nil =>
   intro rs h avs h2
   simp at h;subst h;simp at h2;subst h2
   exact ⟨[],rfl,.nil⟩
  | cons x l ih =>
   intro rs h avs h2
   rw [List.mapM_cons] at h
   cases hx:uR P x with
   | none=>simp [hx] at h
   | some r =>
    cases hm:l.mapM (uR P) with
    | none=>simp [hx,hm] at h
    | some rl =>
     simp [hx,hm] at h
     subst h
     rw [List.mapM_cons] at h2
     cases hy:sJ st r with
     | none=>simp [hy] at h2
     | some av =>
      cases hz:rl.mapM (sJ st) with
      | none=>simp [hy,hz] at h2
      | some avl =>
       simp [hy,hz] at h2
       subst h2
       obtain ⟨v,hv1,hv2⟩:=rv_ok hx hy H hs
       obtain ⟨vs,hv3,hv4⟩:=ih rl hm avl hz
       refine ⟨v :: vs,?_,.cons hv2 hv4⟩
       rw [List.mapM_cons]
       simp only [Sem.run_bind,Sem.run_pure,Result.andThen]
       rw [hv1]
       simp only
       rw [hv3]
 have hall:∃ avs,rs.mapM (sJ st) = PA avs /\ av = (match avs with | [x]=>x | l=>.tup l):=by
  unfold SN at hav
  split at hav
  ·rename_i r
   exact ⟨[av],by simp [hav],rfl⟩
  ·rename_i hne
   simp only [AA] at hav
   obtain ⟨avs,h1,rfl⟩:=hav
   refine ⟨avs,h1,?_⟩
   have hl:=(lI h1).1
   match avs,hl with
   | [],_=>rfl
   | [x],hl=>exact absurd (List.length_eq_one_iff.1 hl.symm).choose_spec (hne _)
   | x :: y :: l,_=>rfl
 obtain ⟨avs,h1,rfl⟩:=hall
 obtain ⟨vs,h2,h3⟩:=key _ _ hr avs h1
 refine ⟨unV vs,?_,?_⟩
 ·unfold results
  have hM:fn.results.mapM (m:=Sem) (fun rv=>match rv with | .tmp t=>(pure (tmps.getD t undef):Sem Value) | .cell a t=>do loadVar t (<- asAddr (tmps.getD a undef))) = List.toArray <$> fn.results.toList.mapM (m:=Sem) (fun rv=>match rv with | .tmp t=>(pure (tmps.getD t undef):Sem Value) | .cell a t=>do loadVar t (<- asAddr (tmps.getD a undef))):=by
   rw [<- Array.toArray_toList (xs:=fn.results),List.mapM_toArray]
  have hM2:(fn.results.mapM (m:=Sem) (fun rv=>match rv with | .tmp t=>(pure (tmps.getD t undef):Sem Value) | .cell a t=>do loadVar t (<- asAddr (tmps.getD a undef)))).run P w = .ok vs.toArray w:=by
   rw [hM]
   simp only [map_eq_pure_bind,Sem.run_bind,Sem.run_pure,Result.andThen]
   rw [h2]
  simp only [Sem.run_bind,Result.andThen]
  erw [hM2]
  match vs with
  | []=>rfl
  | [v]=>rfl
  | v :: u :: l=>simp [unV,Sem.run_pure]
 ·match avs,vs,h3 with
  | [x],[v],h3=>exact h3.2 0 x v rfl rfl
  | [],[],h3=>exact .tup _ _ rfl h3.2
  | x :: y :: l,v :: u :: m,h3=>exact .tup _ _ h3.1 h3.2
  | [],v :: m,h3=>exact absurd h3.1 (by simp)
  | [x],[],h3=>exact absurd h3.1 (by simp)
  | [x],v :: u :: m,h3=>exact absurd h3.1 (by simp)
  | x :: y :: l,[],h3=>exact absurd h3.1 (by simp)
  | x :: y :: l,[v],h3=>exact absurd h3.1 (by simp)
def fG (h:List Blk):AV -> Option AV
 | .tup l=>(l.mapM (VB h 3)).map .tup
 | x=>VB h 3 x
def JD (h:List Blk) (x:AV):Ret -> Prop
 | .ret av=>fG h x = PA av
 | .fresh ty e l nn=>∃ b k,x = .one (.own b k.ver) /\ h[b]? = PA k /\ k.ty = ty /\ k.e = e /\ k.live = SA /\ k.nn = nn /\ (k.els.mapM fun r=>r.mapM (XB h 3)) = PA l /\ b ∉ (k.els.map fun r=>(r.map (EC h 3)).flatten).flatten
theorem mapM_flat {f:Cell -> Option CV} {els:List (List Cell)} {l:List (List CV)} (hm:(els.mapM fun r=>r.mapM f) = PA l):els.flatten.mapM f = PA l.flatten:=(dH els l hm).1
theorem ends_ok (H:HR B0 M0 w h hd) (hM0:∀ g,M0 g -> g < B0) (hB:B0 = w2.heap.size) {x:AV} {v:Value} {r:Ret} (he:JD h x r) (hx:AVR w (iB M0 h hd) h hd x v):RetR w2 w M0 r v:=by
 cases r with
 | ret av =>
  simp only [JD] at he
  have mono:∀ (ids:List Nat) {y:AV} {v:Value},AVR w (iB M0 (freeze ids h) hd) [] bE y v -> AVR w M0 [] bE y v:=fun ids y v hy =>
   hy.tr ⟨fun _ _ _=>rfl,fun g hg _ hm=>hg (.inl hm),EA _,fun b k hk=>by simp at hk⟩
  unfold fG at he
  split at he
  ·rename_i l
   simp only [AA] at he
   obtain ⟨cl,hcl,rfl⟩:=he
   cases hx with
   | tup _ vs hl hv =>
    have hp:=zQ H hM0 hcl ⟨hl,hv⟩ (l.map (kC h 3)).flatten (fun b hb=>hb)
    exact .tup _ _ hp.1 (fun i c v h1 h2=>mono _ (hp.2 i c v h1 h2))
  ·exact mono _ (LL H hM0 (kC h 3 x) 3 he (fun b hb=>hb) hx)
 | fresh ty e l nn =>
  obtain ⟨b,k,rfl,hk,rfl,rfl,hlive,rfl,hcl,hnot⟩:=he
  obtain ⟨hrow,xs,ho,hvr⟩:=H.blk b k hk
  have hv:v = hd b:=by
   obtain ⟨ver,hver⟩:∃ ver,ver = k.ver:=⟨_,rfl⟩
   rw [<- hver] at hx
   cases hx with
   | one _ _ hx =>
    cases hx with
    | own _ blk hb h1=>rfl
    | ownStale _ _ blk v hb hv h1=>rw [hk] at hb;cases hb;omega
  subst hv
  obtain ⟨hlen,hrows⟩:=(dH k.els l hcl).2
  refine ⟨fun i r hi=>?_,H.nn b k hk,xs,?_,?_⟩
  ·have hi':i < k.els.length:=by rw [<- hlen];exact (dA.1 hi).1
   have h1:=hrow i _ (aA hi')
   obtain ⟨hm1,hm2⟩:=lI hcl
   have h2:=hm2 i _ _ (aA hi') hi
   have h3:=(lI h2).1
   omega
  ·rw [hlen,<- hB];exact ho
  ·have hfl:=mapM_flat hcl
   have hp:PW (VR w (iB M0 h hd) h hd) k.els.flatten xs:=by
    refine ⟨?_,hvr⟩
    rw [ho.1]
    have:∀ (els:List (List Cell)),(∀ r ∈ els,r.length = k.e) -> els.flatten.length = els.length * k.e:=fun els he=>by
     induction els with
     | nil=>simp
     | cons r els ih=>simp only [List.flatten_cons,sA,oA,ih (fun r hr=>he r (by simp [hr])),he r (by simp)];rw [Nat.add_mul];omega
    exact this _ (fun r hr=>by obtain ⟨i,hi⟩:=List.mem_iff_getElem?.1 hr;exact hrow i r hi)
   let ids:=(k.els.map fun r=>(r.map (EC h 3)).flatten).flatten
   refine (wJ (S:=CR w (iB M0 (freeze ids h) hd)) k.els.flatten l.flatten xs hfl hp (fun c y u hc hy hu=>uG H hM0 ids 3 c y u hy (fun b' hb'=>?_) hu)).mono (fun c u hcu=>hcu.tr (fun _ _ _=>rfl) (fun g hg _ hbad=>hg ?_) (EA _))
   ·obtain ⟨r,hr,hcr⟩:=List.mem_flatten.1 hc
    exact List.mem_flatten.2 ⟨_,yA.2 ⟨r,hr,rfl⟩,List.mem_flatten.2 ⟨_,yA.2 ⟨c,hcr,rfl⟩,hb'⟩⟩
   ·rcases hbad with hm | hg
    ·exact .inl hm
    ·refine .inr ⟨b,k,?_,hlive,hg⟩
     rw [BD,hk]
     have:ids.contains b = TA:=by simpa [ids] using hnot
     simp only [Option.map_some,this,IA,if_false]
theorem pP {args:List AV} {vals:List Value} (hp:PW (AVR w bad h hd) args vals) (m:Nat):PW (AVR w bad h hd) (args ++ jA (m - args.length) .junk) (vals.toArray ++ Array.replicate (m - vals.toArray.size) undef).toList:=by
 have:(vals.toArray ++ Array.replicate (m - vals.toArray.size) undef).toList = vals ++ jA (m - args.length) undef:=by simp [hp.1]
 rw [this]
 refine hp.append ⟨by simp,fun i c v h1 h2=>?_⟩
 have:=List.mem_of_getElem? h1
 rw [List.mem_replicate] at this
 rw [this.2]
 exact .junk _
def leaves (Q:St -> Prop):Exit -> St -> Prop
 | .normal,st | .ret,st=>Q st
 | _,_=>False
theorem WA {f:FuncId} {fn:Func} {code:Code} {cc:CC} {args:List AV} {r:Ret} {rs:List RV} (hf:P.funcs[f]? = PA fn) (hcall:SH P f) (hb:fn.body = PA code) (hcc:ZA P opn code = PA cc) (hres:fn.results.toList.mapM (uR P) = PA rs)
  (h:uD P opn 0 cc (leaves fun s=>∃ x,SN rs s = PA x /\ JD s.h x r) ⟨args ++ jA (fn.ntmps - args.length) .junk,[]⟩):YA P f args r:=by
 refine ⟨hcall,fun w M vals hMG hp=>(callsIn_wide (n:=0)).1 ?_⟩
 obtain ⟨hM,hG⟩:=hMG
 let X:Ctx:=⟨w.heap.size,w,M,hM,EA _,[],bE,fun _ _=>False,fun k o h=>h.elim,QA,fun l h=>(by cases h),0,hG⟩
 have hbad:∀ g,iB M [] bE g -> M g:=fun g hg=>by
  rcases hg with hm | ⟨b,k,hk,_⟩
  ·exact hm
  ·simp at hk
 have T0:Tr w M [] bE w (iB M [] bE) [] bE:=⟨fun _ _ _=>rfl,fun g hg _ hbg=>hg (hbad g hbg),EA _,fun b k hk=>by simp at hk⟩
 have r0:Rel X ⟨args ++ jA (fn.ntmps - args.length) .junk,[]⟩ bE { tmps:=vals.toArray ++ Array.replicate (fn.ntmps - vals.toArray.size) undef,defers:=[] } w :=
  ⟨Below.refl _ _,(pP (hp.mono fun c v hc=>hc.tr T0) fn.ntmps),⟨fun b k hk=>by simp at hk,fun b k hk=>by simp at hk,fun b b' k k' hk=>by simp at hk⟩,Tr.refl _ _ _ _,(fun k o h=>h.elim),fN _,⟨[],rfl,List.nodup_nil,(fun D hD=>by cases hD)⟩⟩
 refine callsIn_of_wp_marks hf hb trivial ?_ rfl
 refine wpIn_mono (h code hcc X 0 bE _ w rfl r0) ?_
 rintro e a' w' ⟨s,hd',q,r'⟩
 have fin:(∃ x,SN rs s = PA x /\ JD s.h x r) -> LeavesInM (Wd QA) 0 P fn a'.tmps (fun e w'=>∃ v,e = .returned v /\ Below w.heap.size w w' /\ RetR w w' M r v) a'.defers .returning w':=fun ⟨x,hx,he⟩=>by
  obtain ⟨Ds,hDs,hN,hD⟩:=r'.marks
  rw [hDs]
  refine MK (B1:=w.heap.size) Ds w' hN hD (fun w'' hbel hk=>?_)
  obtain ⟨v,hv,hav⟩:=AL hres hx (r'.heap.kept hk) (fun t=>(r'.sees (.tmp t)).kept hk)
  exact ⟨v,hv,v,rfl,r'.below.trans hbel,ends_ok (r'.heap.kept hk) X.hM0 rfl he hav⟩
 cases e with
 | normal=>exact fin q
 | ret=>exact fin q
 | _=>exact q.elim
theorem uF {f:FuncId} {fn:Func} {code:Code} {cc:CC} {args:List AV} {r:AV} {rs:List RV} (hf:P.funcs[f]? = PA fn) (hcall:SH P f) (hb:fn.body = PA code) (hcc:ZA P opn code = PA cc) (hres:fn.results.toList.mapM (uR P) = PA rs)
  (h:uD P opn h0.length cc (leaves fun s=>s.h = h' /\ SN rs s = PA r) ⟨args ++ jA (fn.ntmps - args.length) .junk,h0⟩):DE P f args h0 r h':=by
 refine ⟨hcall,fun B0 M0 w hd vals H hM0 hBG hp=>(callsIn_wide (n:=0)).1 ?_⟩
 obtain ⟨hB0,hG⟩:=hBG
 let X:Ctx:=⟨B0,w,M0,hM0,hB0,h0,hd,fun _ _=>False,fun k o h=>h.elim,QA,fun l h=>(by cases h),0,hG⟩
 have r0:Rel X ⟨args ++ jA (fn.ntmps - args.length) .junk,h0⟩ hd { tmps:=vals.toArray ++ Array.replicate (fn.ntmps - vals.toArray.size) undef,defers:=[] } w :=
  ⟨Below.refl _ _,pP hp fn.ntmps,H,Tr.refl _ _ _ _,(fun k o h=>h.elim),fN _,⟨[],rfl,List.nodup_nil,(fun D hD=>by cases hD)⟩⟩
 refine callsIn_of_wp_marks hf hb trivial ?_ rfl
 refine wpIn_mono (h code hcc X 0 hd _ w rfl r0) ?_
 rintro e a' w' ⟨s,hd',q,r'⟩
 have fin:s.h = h' /\ SN rs s = PA r -> LeavesInM (Wd QA) 0 P fn a'.tmps (fun e w'=>∃ v hd',e = .returned v /\ Below B0 w w' /\ HR B0 M0 w' h' hd' /\ Tr w (iB M0 h0 hd) h0 hd w' (iB M0 h' hd') h' hd' /\ AVR w' (iB M0 h' hd') h' hd' r v) a'.defers .returning w':=by
  rintro ⟨rfl,hx⟩
  obtain ⟨Ds,hDs,hN,hD⟩:=r'.marks
  rw [hDs]
  refine MK (B1:=w.heap.size) Ds w' hN hD (fun w'' hbel hk=>?_)
  obtain ⟨v,hv,hav⟩:=AL hres hx (r'.heap.kept hk) (fun t=>(r'.sees (.tmp t)).kept hk)
  refine ⟨v,hv,v,hd',rfl,r'.below.trans (hbel.mono hB0),r'.heap.kept hk,?_,hav⟩
  refine ⟨fun g hg hl=>(hbel.block g hl).trans (r'.tr.blk g hg hl),r'.tr.ok,GA r'.tr.size hk.1,r'.tr.own⟩
 cases e with
 | normal=>exact fin q
 | ret=>exact fin q
 | _=>exact q.elim
end Go.Am
namespace Go.Am
open Go.RowKit
variable {GL:Glb}
variable {P:Program} {opn:List FuncId} {h h':List Blk} {st st':St} {n n0:Nat}
theorem mapM_c (f:Nat) (h:List Blk):∀ (r:List CV),(r.map Cell.c).mapM (XB h f) = PA r
 | []=>rfl
 | x :: r=>by
  have:XB h f (.c x) = PA x:=by cases f <;> rfl
  simp [List.mapM_cons,this,mapM_c f h r]
theorem mK (f:Nat) (h:List Blk):∀ (l:List (List CV)),(l.map (·.map Cell.c)).mapM (fun r=>r.mapM (XB h f)) = PA l
 | []=>rfl
 | x :: r=>by
  rw [List.map_cons,List.mapM_cons,mK f h r,mapM_c]
  rfl
theorem used_c (f:Nat) (h:List Blk) (x:CV):EC h f (.c x) = []:=by cases f <;> rfl
theorem flat_nil {α β:Type} (l:List α) (g:α -> List β) (hg:∀ a ∈ l,g a = []):(l.map g).flatten = []:=by
 induction l with
 | nil=>rfl
 | cons a l ih=>simp [hg a (by simp),ih (fun b hb=>hg b (by simp [hb]))]
theorem used_row_c (f:Nat) (h:List Blk) (r:List CV):((r.map Cell.c).map (EC h f)).flatten = []:=by
 apply flat_nil
 intro a ha
 obtain ⟨x,_,rfl⟩:=yA.1 ha
 exact used_c f h x
theorem cK (f:Nat) (h:List Blk) (l:List (List CV)):((l.map (·.map Cell.c)).map fun r=>(r.map (EC h f)).flatten).flatten = []:=by
 apply flat_nil
 intro a ha
 obtain ⟨x,_,rfl⟩:=yA.1 ha
 exact used_row_c f h x
theorem JD.fresh_c {b ver e:Nat} {ty:TypeId} {l:List (List CV)} {nn:Bool} (hk:h[b]? = PA ⟨ver,ty,e,l.map (·.map .c),SA,nn⟩):JD h (.one (.own b ver)) (.fresh ty e l nn) :=
 ⟨b,_,rfl,hk,rfl,rfl,rfl,rfl,mK 3 h l,by rw [cK];simp⟩
theorem JD.ret_c {x:CV}:JD h (.one (.c x)) (.ret (.one (.c x))):=rfl
theorem kB:([]:List AV).mapM (VB h 3) = PA []:=rfl
theorem gB {x y:AV} {l m:List AV} (hx:VB h 3 x = PA y) (hl:l.mapM (VB h 3) = PA m):(x :: l).mapM (VB h 3) = PA (y :: m):=by
 rw [List.mapM_cons,hx,hl];rfl
theorem pQ {t:List AV} {f:FuncId} {args:List Operand} {as cas:List AV} {r:Ret} {K:AV -> List Blk -> Prop} (ha:sC ⟨t,h⟩ (.func f) args = PA (f,as)) (hcl:as.mapM (VB h 3) = PA cas)
  (hp:YA P f cas r) (hK:K (CD h (as.map (kC h 3)).flatten r).1 (CD h (as.map (kC h 3)).flatten r).2):∃ x h',XH P opn t h (.callf (.func f) args) x h' /\ K x h' :=
 ⟨_,_,⟨f,as,ha,.inl ⟨cas,r,hcl,hp,rfl⟩⟩,hK⟩
end Go.Am
namespace Go.Am
open Go.RowKit
variable {GL:Glb}
variable {P:Program} {opn:List FuncId} {w w':World} {M0:Nat -> Prop} {h h0 h1 h2 h':List Blk} {hd hd':Nat -> Value} {B0:Nat} {bad bad':Nat -> Prop} {X:Ctx} {st st':St} {a:Act} {t t' t2:List AV}
 {rd:Option Nat} {n n0:Nat} {Q:Exit -> Act -> World -> Prop}
theorem wd_n {c:Code} (h:c.wpIn (Wd rd) n P Q a w) (m:Nat):c.wpIn (Wd rd) m P Q a w :=
 fun b k cs hro hb _=>h b k cs hro hb (fun d hd=>by cases hd)
def mvT (ms:List (Tmp × Tmp)) (t:List AV):List AV:=ms.foldl (fun t p=>t.set p.1 (t.getD p.2 .junk)) t
def mvA (ms:List (Tmp × Tmp)) (a:Act):Act:=ms.foldl (fun a p=>a.put (PA p.1) (a.eval (.tmp p.2))) a
theorem vQ:∀ (ms:List (Tmp × Tmp)) (a:Act),(mvA ms a).defers = a.defers
 | [],a=>rfl
 | p :: ms,a=>by
  show (mvA ms (a.put (PA p.1) (a.eval (.tmp p.2)))).defers = a.defers
  rw [vQ ms]
  rfl
theorem getD_pw (hp:PW (AVR w bad h hd) t a.tmps.toList) (s:Tmp):AVR w bad h hd (t.getD s .junk) (a.tmps.getD s undef):=by
 cases hi:t[s]? with
 | none=>rw [List.getD,hi];exact .junk _
 | some av =>
  have hlt:s < a.tmps.toList.length:=by rw [<- hp.1];exact (dA.1 hi).1
  have:=hp.2 s av _ hi (aA hlt)
  simp only [Array.length_toList] at hlt
  have e:a.tmps.getD s undef = a.tmps.toList[s]:=by simp [Array.getD,hlt]
  rw [List.getD,hi,e]
  exact this
theorem mv_pw:∀ (ms:List (Tmp × Tmp)) (t:List AV) (a:Act),PW (AVR w bad h hd) t a.tmps.toList -> PW (AVR w bad h hd) (mvT ms t) (mvA ms a).tmps.toList
 | [],t,a,hp=>hp
 | p :: ms,t,a,hp=>by
  refine mv_pw ms _ _ ?_
  show PW _ (t.set p.1 (t.getD p.2 .junk)) (a.tmps.setIfInBounds p.1 (a.eval (.tmp p.2))).toList
  rw [Array.toList_setIfInBounds]
  exact hp.set p.1 (getD_pw hp p.2)
theorem move_op {ops:Array Oper} {o:Oper} {p:Tmp × Tmp} {i:Nat} {K:Act -> World -> Prop} {F:Fence} (hi:ops[i]? = PA o) (hm:moveOp o = PA p) (hK:K (a.put (PA p.1) (a.eval (.tmp p.2))) w):wpOpIn F n P ops Q i K a w:=by
 unfold moveOp at hm
 unfold wpOpIn
 rw [hi]
 simp only
 split at hm
 ·rename_i d s hg hd ho
  simp only [BA] at hm
  subst hm
  rw [if_pos (by unfold Region.wanted;rw [hg])]
  exact BigFrame.wpIn_move _ ho (by rw [hd];exact hK)
 ·rename_i d s hg hd ho
  simp only [BA] at hm
  subst hm
  rw [if_pos (by unfold Region.wanted;rw [hg])]
  exact BigFrame.wpIn_assign _ ho (by rw [hd];exact hK)
 ·cases hm
theorem GS {ops:Array Oper} {ms:List (Tmp × Tmp)} {F:Fence} (hm:ops.toList.mapM moveOp = PA ms):∀ (is:List Nat) (a:Act),(∀ i ∈ is,i < ops.size) -> Q .normal (mvA (is.filterMap (ms[·]?)) a) w -> wpOpsIn F n P ops Q is a w
 | [],a,_,hQ=>hQ
 | i :: is,a,hi,hQ=>by
  rw [wpOpsIn_cons]
  have hlt:i < ops.size:=hi i (by simp)
  have ho:ops[i]? = PA ops[i]:=by simp [hlt]
  obtain ⟨h1,h2⟩:=lI hm
  have hml:i < ms.length:=by rw [h1];simpa using hlt
  have hmi:ms[i]? = PA ms[i]:=aA hml
  rw [List.filterMap_cons,hmi] at hQ
  exact move_op ho (h2 i _ _ (by simpa using ho) hmi) (GS hm is _ (fun j hj=>hi j (by simp [hj])) hQ)
theorem NI {β:Type}:∀ (l:List β) (m:Nat),l.length = m -> (List.range m).filterMap (l[·]?) = l
 | [],m,hm=>by subst hm;rfl
 | x :: l,m,hm=>by
  subst hm
  rw [oA,List.range_succ_eq_map,List.filterMap_cons]
  simp only [List.getElem?_cons_zero,List.filterMap_map]
  congr 1
  exact NI l _ rfl
theorem wQ {F:Fence}:∀ (code:Code) {ms:List (Tmp × Tmp)} {a:Act} {Q:Exit -> Act -> World -> Prop},yD code = PA ms -> Q .normal (mvA ms a) w -> code.wpIn F n P Q a w
 | .skip,ms,a,Q,hm,hQ=>by
  simp only [yD,BA] at hm
  subst hm
  exact wpIn_skip hQ
 | .region id ops TA,ms,a,Q,hm,hQ=>by
  simp only [yD] at hm
  obtain ⟨h1,_⟩:=lI hm
  refine wpIn_region (GS hm _ a (fun i hi=>zA.1 hi) ?_)
  rw [NI ms _ (by simpa using h1)]
  exact hQ
 | .seq x y,ms,a,Q,hm,hQ=>by
  simp only [yD] at hm
  split at hm
  ·rename_i m1 m2 h1 h2
   simp only [BA] at hm
   subst hm
   refine wpIn_seq (wQ x h1 ?_)
   refine wQ y h2 ?_
   have:mvA m2 (mvA m1 a) = mvA (m1 ++ m2) a:=by simp [mvA,List.foldl_append]
   rw [this]
   exact hQ
  ·cases hm
 | .region id ops SA,ms,a,Q,hm,hQ=>by simp [yD] at hm
 | .cond ..,ms,a,Q,hm,hQ=>by simp [yD] at hm
 | .block ..,ms,a,Q,hm,hQ=>by simp [yD] at hm
 | .loop ..,ms,a,Q,hm,hQ=>by simp [yD] at hm
 | .rangeFunc ..,ms,a,Q,hm,hQ=>by simp [yD] at hm
 | .exit ..,ms,a,Q,hm,hQ=>by simp [yD] at hm
 | .scope ..,ms,a,Q,hm,hQ=>by simp [yD] at hm
 | .label ..,ms,a,Q,hm,hQ=>by simp [yD] at hm
 | .goto ..,ms,a,Q,hm,hQ=>by simp [yD] at hm
 | .ret,ms,a,Q,hm,hQ=>by simp [yD] at hm
 | .refuse ..,ms,a,Q,hm,hQ=>by simp [yD] at hm
def RL (w:World) (bad:Nat -> Prop) (A B:World):Prop :=
 A.heap.size <= B.heap.size /\ ∀ (g:Nat),g < w.heap.size -> ¬ bad g -> ∀ cs t o,A.heap[g]? = PA (Obj.cells cs t o) -> B.heap[g]? = PA (Obj.cells cs t o)
def oT [Glb] (P:Program) (gf:FuncId) (caps:List Cell) {α:Type} (encs:α -> List AV) (np:Nat) (S Sp:List α -> Prop) (N:Nat):Prop :=
 SH P gf /\ (∀ x,(encs x).length = np) /\ ∀ (w:World) (bad:Nat -> Prop) (vs:List Value),((∀ g,bad g -> g < w.heap.size) /\ GB bad w.heap.size w) -> PW (VR w bad [] bE) caps vs ->
  ∃ enc:α -> List Value,(∀ x,PW (AVR w bad [] bE) (encs x) (enc x)) /\ ∀ n,SeqStopsK (Wd QA) n P gf vs.toArray (fun x=>(enc x).toArray) (RL w bad) S Sp N w
def wE:Cell -> Bool
 | .c _ | .iptr _ | .slx _ _=>SA
 | _=>TA
theorem VR.closed {x:Cell} {v:Value} (hcl:wE x = SA) (hx:VR w bad h hd x v):VR w bad [] bE x v:=by
 cases hx with
 | c x v hx=>exact .c x v hx
 | iptr l g off f hbad hlt hc hv=>exact .iptr l g off f hbad hlt hc hv
 | slx e l g off hx=>exact .slx e l g off hx
 | _=>cases hcl
theorem kL {row:Option Nat} (hg:w.grownBy w' row) (hr:∀ r,row = PA r -> ∃ o:Obj,w.heap[r]? = PA o /\ o.isCells = TA):fD w w' :=
 ⟨hg.size,fun g cs t o hc=>by
  rw [hg.block g (Array.getElem?_eq_some_iff.1 hc).1 (fun e=>by obtain ⟨o',ho,hn⟩:=hr g e.symm;rw [hc] at ho;cases ho;cases hn)]
  exact hc⟩
theorem Rel.own (r:Rel X st hd a w) (hd0:a.defers = []) (hX:∀ k o,X.keep k o -> k < X.w0.heap.size) {row:Option Nat} (hg:w.grownBy w' row) (hr:∀ g,row = PA g -> X.w0.heap.size <= g /\ ∃ o:Obj,w.heap[g]? = PA o /\ o.isCells = TA):Rel X st hd a w':=by
 have hk:=kL hg (fun g e=>(hr g e).2)
 have hne:∀ k,k < X.w0.heap.size -> w'.heap[k]? = w.heap[k]?:=fun k hk=>hg.block k (HA hk r.below.size) (fun e=>by have:=(hr k e.symm).1;omega)
 refine ⟨r.below.trans ⟨hg.os,hg.tape,hg.output,hg.size,fun k hk=>hne k (HA hk X.hB0)⟩,r.slots.mono (fun c v hc=>hc.kept hk),r.heap.kept hk,⟨fun g hg' hl=>(hne g hl).trans (r.tr.blk g hg' hl),r.tr.ok,GA r.tr.size hg.size,r.tr.own⟩,fun k o hko=>(hne k (hX k o hko)).trans (r.keeps k o hko),GA r.big hg.size,[],hd0,List.nodup_nil,fun D hD=>by cases hD⟩
theorem foldl_set (enc:List Value) (ps:List Tmp) (tmps:Array Value) :
  ((ps.toArray.zip enc.toArray).foldl (fun t (x:Tmp × Value)=>t.setIfInBounds x.1 x.2) tmps) = (ps.zip enc).foldl (fun t x=>t.setIfInBounds x.1 x.2) tmps:=by
 simp [List.zip_toArray]
def VG (ps:List Tmp) (avs:List AV) (t:List AV):List AV:=(ps.zip avs).foldl (fun t p=>t.set p.1 p.2) t
theorem setps_pw:∀ (ps:List Tmp) (avs:List AV) (vs:List Value) (t:List AV) (tmps:Array Value),PW (AVR w bad h hd) avs vs -> PW (AVR w bad h hd) t tmps.toList ->
  PW (AVR w bad h hd) (VG ps avs t) ((ps.zip vs).foldl (fun t x=>t.setIfInBounds x.1 x.2) tmps).toList
 | [],avs,vs,t,tmps,_,ht=>by cases avs <;> cases vs <;> exact ht
 | p :: ps,[],vs,t,tmps,hp,ht=>by
  have:vs = []:=List.eq_nil_of_length_eq_zero hp.1.symm
  subst this;exact ht
 | p :: ps,x :: avs,[],t,tmps,hp,ht=>absurd hp.1 (by simp)
 | p :: ps,x :: avs,v :: vs,t,tmps,hp,ht=>by
  refine setps_pw ps avs vs _ _ ⟨by simpa using hp.1,fun i c u hc hu=>hp.2 (i + 1) c u (by simpa using hc) (by simpa using hu)⟩ ?_
  rw [Array.toList_setIfInBounds]
  exact ht.set p (hp.2 0 x v rfl rfl)
def rfX (X:Ctx) (st:St) (hd:Nat -> Value) (w:World) (hB:BW X w):Ctx :=
 { B0:=X.B0,w0:=w,M0:=X.M0,hM0:=X.hM0,hB0:=hB.1,hG:=hB.2,h0:=st.h,hd0:=hd,keep:=fun k o=>w.heap[k]? = PA o /\ o.isCells = TA,hkeep:=fun k o h=>h.2,rd:=QA,hrd:=fun l h=>(by cases h),lo:=0 }
def rdX (X:Ctx) (st:St) (hd:Nat -> Value) (w:World) (hB:BW X w) (W:World) (l:Nat) (hl:∃ r,W.heap[l]? = PA (.loop r)):Ctx :=
 { B0:=X.B0,w0:=w,M0:=X.M0,hM0:=X.hM0,hB0:=hB.1,hG:=hB.2,h0:=st.h,hd0:=hd,keep:=fun k o=>W.heap[k]? = PA o /\ o.isCells = TA,hkeep:=fun k o h=>h.2,rd:=PA l,
   hrd:=fun l' h=>(by cases h;exact hl.elim fun r hr=>⟨r,hr,rfl⟩),lo:=W.heap.size }
def EH [Glb] (n0:Nat) (N:List Blk -> Prop) (R:Exit -> List Blk -> Prop):Exit -> St -> Prop
 | .normal,s=>∃ h',N h' /\ ∃ t,TB n0 s ⟨t,h'⟩
 | .ret,s=>R .ret s.h
 | .exit id,s=>R (.exit id) s.h
 | _,_=>False
theorem lJ {α:Type} {encs:α -> List AV} {enc:α -> List Value} {ps:Array Tmp} {W:World} {hh:List Blk} {hdI:Nat -> Value} {bad'':Nat -> Prop} {tm:Array Value} (henc:∀ x,PW (AVR w bad [] bE) (encs x) (enc x)) (hs:PW (AVR w bad h hd) t tm.toList) (hTr:Tr w bad h hd W bad'' hh hdI) {x:α} :
  PW (AVR W bad'' hh hdI) (VG ps.toList (encs x) t) ((ps.zip ((enc x).toArray)).foldl (fun t (p,v)=>t.setIfInBounds p v) tm).toList:=by
 have e1:(ps.zip ((enc x).toArray)).foldl (fun t (p,v)=>t.setIfInBounds p v) tm = (ps.toList.zip (enc x)).foldl (fun t x=>t.setIfInBounds x.1 x.2) tm:=by
  rw [<- foldl_set]
 rw [e1]
 exact setps_pw _ _ _ _ _ ((henc x).mono (fun c v hc=>(hc.lift h hd).tr hTr)) (hs.mono (fun c v hc=>hc.tr hTr))
theorem rf_core {α:Type} {g':Operand} {ps':Array Tmp} {body:CC} {ca cb:Code} {Q:Exit -> St -> Prop} {gf:FuncId} {vs:List Value} (hcb:ZA P opn cb = PA body) (r:Rel X st hd a w) (hev:a.eval g' = .func (.func gf) #[] vs.toArray)
  (hcall:∀ args w,(callFunc gf args).run P w = .ok (.enter gf args) w) {enc:α -> List Value} {S Sp:List α -> Prop} {N:Nat} (hseq:∀ n,SeqStopsK (Wd QA) n P gf vs.toArray (fun x=>(enc x).toArray) (RL w (iB X.M0 st.h hd)) S Sp N w)
  (hps:∀ x,((enc x).toArray).size = ps'.size) (Inv:List α -> List Blk -> Prop) (hInv0:Inv [] st.h) (R:List α -> Exit -> List Blk -> Prop) (slots:α -> List AV) (hBw:BW X w)
  (Ax:α -> Act -> World -> Prop) (hAx:∀ x a',OwnFrom w.heap.size (fun (_:Unit) W=>Ax x a' W))
  (hassign:∀ (F:Fence) {m:Nat} (l:Nat) (pre:List α) (x:α) (W:World) (K:Act -> World -> Prop),(∃ hh,Inv pre hh /\ ∃ hd',Rel (rfX X st hd w hBw) ⟨[],hh⟩ hd' ⟨#[],[]⟩ W) ->
   (∀ a' W',KeepsFrom w.heap.size W W' -> RL w (iB X.M0 st.h hd) W W' -> (∃ hh,Inv pre hh /\ ∃ hd',Rel (rfX X st hd w hBw) ⟨[],hh⟩ hd' ⟨#[],[]⟩ W') -> Ax x a' W' -> K a' W') ->
   ca.wpIn F m P (Exit.then K (fun _ _ _=>False)) { tmps:=(ps'.zip ((enc x).toArray)).foldl (fun t (p,v)=>t.setIfInBounds p v) a.tmps,defers:=[] } W)
  (hslots:∀ (x:α) (a':Act) (W:World) (hh:List Blk) (hdI:Nat -> Value) (pre:List α),Inv pre hh -> Rel (rfX X st hd w hBw) ⟨[],hh⟩ hdI ⟨#[],[]⟩ W -> Ax x a' W -> PW (AVR W (iB X.M0 hh hdI) hh hdI) (slots x) a'.tmps.toList /\ a'.defers = [])
  (hround:∀ pre x h,pre.length < N -> Inv pre h -> uD P opn st.h.length body (EH st.h.length (Inv (pre ++ [x])) (R (pre ++ [x]))) ⟨slots x,h⟩)
  (hdone:∀ xs h,S xs -> Inv xs h -> Q .normal ⟨st.t,h⟩) (hstop:∀ e pre h',Sp pre -> R pre e h' -> Q e ⟨st.t,h'⟩) :
  (Code.rangeFunc g' ps' ca cb).wpIn (Wd X.rd) n P (fun e a' w'=>∃ st' hd',Q e st' /\ Rel X st' hd' a' w') a w:=by
 let X1:=rfX X st hd w hBw
 have hX1k:∀ k o,X1.keep k o -> k < X1.w0.heap.size:=fun k o hk=>(Array.getElem?_eq_some_iff.1 hk.1).1
 let I:List α -> World -> Prop:=fun pre W=>∃ hh,Inv pre hh /\ ∃ hd',Rel X1 ⟨[],hh⟩ hd' ⟨#[],[]⟩ W
 let Ix:Code -> List α -> World -> Prop:=fun c pre W=>∃ e h' hd',(c = .ret /\ e = .ret \/ ∃ id,c = .exit id /\ e = .exit id) /\ R pre e h' /\ Rel X1 ⟨[],h'⟩ hd' ⟨#[],[]⟩ W
 have hI:OwnFrom w.heap.size I:=fun s A B row hs hg hr=>by
  obtain ⟨hh,hi,hd',r'⟩:=hs
  exact ⟨hh,hi,hd',r'.own rfl hX1k hg hr⟩
 have hIx:∀ c,OwnFrom w.heap.size (Ix c):=fun c s A B row hs hg hr=>by
  obtain ⟨e,h',hd',h1,h2,r'⟩:=hs
  exact ⟨e,h',hd',h1,h2,r'.own rfl hX1k hg hr⟩
 have hI0:I [] w:=⟨st.h,hInv0,hd,Below.refl _ _,.nil,r.heap,Tr.refl _ _ _ _,fun k o hk=>hk.1,fN _,[],rfl,List.nodup_nil,fun D hD=>by cases hD⟩
 have hbody:∀ (l:Nat) (pre:List α) (x:α) (a':Act) (W:World),w.heap.size <= l -> (∃ r,W.heap[l]? = PA (.loop r)) -> I pre W -> Ax x a' W -> pre.length < N ->
   ∀ m,cb.wpIn (Wd (PA l)) m P (ownPostG w.heap.size (RL w (iB X.M0 st.h hd)) I Ix (pre ++ [x]) W) a' W:=by
  rintro l pre x a' W hlw hl ⟨hh,hinv,hdI,rI⟩ hax hlen m
  have hTr:Tr w (iB X.M0 st.h hd) st.h hd W (iB X.M0 hh hdI) hh hdI:=rI.tr
  let X2:=rdX X st hd w hBw W l hl
  obtain ⟨hsl,hdf⟩:=hslots x a' W hh hdI pre hinv rI hax
  have r2:Rel X2 ⟨slots x,hh⟩ hdI a' W:=⟨rI.below,hsl,rI.heap,rI.tr,fun k o hk=>hk.1,EA _,[],by rw [hdf];rfl,List.nodup_nil,fun D hD=>by cases hD⟩
  refine wpIn_mono (hround pre x hh hlen hinv cb hcb X2 m hdI _ W rfl r2) ?_
  rintro e a3 W3 ⟨s,hd3,q,r3⟩
  have kf:KeepsFrom w.heap.size W W3:=⟨r3.big,fun k o _ hk ho=>r3.keeps k o ⟨hk,ho⟩⟩
  have kp:RL w (iB X.M0 st.h hd) W W3:=⟨r3.big,fun g hgl hnb cs t o hc=>by
   have h1:=rI.tr.blk g hnb hgl
   have h3:=r3.tr.blk g hnb hgl
   exact (h3.trans h1.symm).trans hc⟩
  have back:∀ {s':St} {hd':Nat -> Value},Rel X2 s' hd' a3 W3 -> Rel X1 ⟨[],s'.h⟩ hd' ⟨#[],[]⟩ W3:=fun r4 =>
   ⟨r4.below,.nil,r4.heap,r4.tr,fun k o hk=>r4.keeps k o ⟨rI.keeps k o hk,hk.2⟩,fN _,[],rfl,List.nodup_nil,fun D hD=>by cases hD⟩
  cases e with
  | normal =>
   obtain ⟨h3,hinv',t,hf⟩:=q
   obtain ⟨hd4,r4⟩:=hf X2 hd3 a3 W3 rfl r3
   exact ⟨kf,kp,h3,hinv',hd4,back r4⟩
  | ret=>exact ⟨kf,.ret,s.h,hd3,.inl ⟨rfl,rfl⟩,q,back r3⟩
  | exit id=>exact ⟨kf,.exit id,s.h,hd3,.inr ⟨id,rfl,rfl⟩,q,back r3⟩
  | goto t=>exact q.elim
  | panic ch=>exact q.elim
  | outgrown=>exact q.elim
 have fin:∀ {h':List Blk} {hd':Nat -> Value} {W:World} (ds:List Nat),(∀ D ∈ ds,w.heap.size <= D /\ W.heap[D]? = PA (.deferred (PA []))) -> ds.Nodup -> Rel X1 ⟨[],h'⟩ hd' ⟨#[],[]⟩ W -> Rel X ⟨st.t,h'⟩ hd' { a with defers:=ds.map markOf ++ a.defers } W:=fun ds pD hnd r1=>by
  obtain ⟨Ds,hD,hN,hDs⟩:=r.marks
  refine ⟨r.below.trans r1.below,r.slots.mono (fun c v hc=>hc.tr r1.tr),r1.heap,r.tr.trans r1.tr,fun k o hk=>r1.keeps k o ⟨r.keeps k o hk,X.hkeep k o hk⟩,GA r.big r1.tr.size,ds ++ Ds,by simp [hD],?_,fun D hDm=>?_⟩
  ·refine List.nodup_append.2 ⟨hnd,hN,fun x hx y hy e=>?_⟩
   subst e
   have h1:=(pD x hx).1
   have h2:=(Array.getElem?_eq_some_iff.1 (hDs x hy).2).1
   omega
  ·rcases List.mem_append.1 hDm with hm | hm
   ·exact ⟨GA r.below.size (pD D hm).1,(pD D hm).2⟩
   ·exact ⟨(hDs D hm).1,r1.keeps D _ ⟨(hDs D hm).2,rfl⟩⟩
 have hKt:∀ {A B C:World},RL w (iB X.M0 st.h hd) A B -> RL w (iB X.M0 st.h hd) B C -> RL w (iB X.M0 st.h hd) A C:=fun h k=>⟨GA h.1 k.1,fun g hg hb cs t o hc=>k.2 g hg hb cs t o (h.2 g hg hb cs t o hc)⟩
 have hKb:∀ (W:World) (l:Nat) (o o':Obj),w.heap.size <= l -> W.heap[l]? = PA o -> o.isCells = TA -> o.isWalk = TA -> RL w (iB X.M0 st.h hd) W (W.putObj l o'):=fun W l o o' hl ho hc hw =>
  ⟨by simp [World.putObj],fun g hg _ cs t o2 hc2=>by rw [World.putObj_heap_other (by omega)];exact hc2⟩
 have hKr:∀ W,RL w (iB X.M0 st.h hd) W W:=fun W=>⟨EA _,fun _ _ _ _ _ _ h=>h⟩
 have stop:∀ {c:Code} {e:Exit} {a':Act} {W:World} {m:Nat} {Q':Exit -> Act -> World -> Prop},(c = .ret /\ e = .ret \/ ∃ id,c = .exit id /\ e = .exit id) -> Q' e a' W -> c.wpIn (Wd X.rd) m P Q' a' W:=fun hce hq=>by
  rcases hce with ⟨rfl,rfl⟩ | ⟨id,rfl,rfl⟩
  ·exact wpIn_ret hq
  ·exact wpIn_exit hq
 cases hrd:X.rd with
 | none =>
  refine wd_n (n:=5) ?_ n
  refine wpIn_rangeFunc_ownH (F:=Wd QA) rfl (by omega) hev trivial (fun args w=>hcall args w) (hseq 4) (fun h k=>hKt h k) hKb (Below.refl _ _) hps I Ix hI hIx hI0 Ax hAx
   (fun l pre x W K hi hK=>hassign _ l pre x W K hi hK) (fun l pre x a' W hlw hl hi ha hlen=>hbody l pre x a' W hlw hl hi ha hlen _) ?_ ?_
  ·rintro D xs W hD hS ⟨hh,hinv,hd',r1⟩ hWD
   exact ⟨_,hd',hdone xs hh hS hinv,fin [D] (fun D' hD'=>by simp at hD';subst hD';exact ⟨hD,hWD⟩) (by simp) r1⟩
  ·rintro D c pre W hD hSp ⟨e,h',hd',hce,hR,r1⟩ hWD
   have hst:=stop (m:=5) (a':={ a with defers:={ target:=.collected D,args:=#[] } :: a.defers }) (W:=W) (Q':=fun e a' w'=>∃ st' hd',Q e st' /\ Rel X st' hd' a' w') hce ⟨_,hd',hstop e pre h' hSp hR,fin [D] (fun D' hD'=>by simp at hD';subst hD';exact ⟨hD,hWD⟩) (by simp) r1⟩
   rw [hrd] at hst
   exact hst
 | some l₀ =>
  obtain ⟨r₀,hk₀⟩:=X.hrd l₀ hrd
  have hl₀:=r.keeps _ _ hk₀
  refine wd_n (n:=5) ?_ n
  refine wpIn_rangeFunc_ownN (F:=Wd (PA l₀)) rfl hl₀ (by omega) hev trivial (fun args w=>hcall args w) (SeqStopsK.inRound l₀ (hseq 4)) (fun h k=>hKt h k) hKb (Below.refl _ _) hps I Ix hI hIx hI0 Ax hAx
   (fun l pre x W K hi hK=>hassign _ l pre x W K hi hK) (fun l pre x a' W hlw hl hi ha hlen=>hbody l pre x a' W hlw hl hi ha hlen _) ?_ ?_
  ·rintro xs W hS ⟨hh,hinv,hd',r1⟩
   exact ⟨_,hd',hdone xs hh hS hinv,fin [] (fun D' hD'=>by cases hD') (by simp) r1⟩
  ·rintro c pre W hSp ⟨e,h',hd',hce,hR,r1⟩
   have hst:=stop (m:=5) (a':=a) (W:=W) (Q':=fun e a' w'=>∃ st' hd',Q e st' /\ Rel X st' hd' a' w') hce ⟨_,hd',hstop e pre h' hSp hR,fin [] (fun D' hD'=>by cases hD') (by simp) r1⟩
   rw [hrd] at hst
   exact hst
theorem awp_rf {α:Type} {g:Operand} {ps:List Tmp} {ms:List (Tmp × Tmp)} {body:CC} {Q:Exit -> St -> Prop} {gf:FuncId} {caps:List Cell} (hg:st.ev g = .one (.fn gf caps)) (hcaps:∀ c ∈ caps,wE c = SA) {encs:α -> List AV} {S Sp:List α -> Prop} {N:Nat}
  (hit:oT P gf caps encs ps.length S Sp N) (Inv:List α -> List Blk -> Prop) (hInv0:Inv [] st.h) (R:List α -> Exit -> List Blk -> Prop)
  (hround:∀ pre x h,pre.length < N -> Inv pre h -> uD P opn st.h.length body (EH st.h.length (Inv (pre ++ [x])) (R (pre ++ [x]))) ⟨mvT ms (VG ps (encs x) st.t),h⟩)
  (hdone:∀ xs h,S xs -> Inv xs h -> Q .normal ⟨st.t,h⟩) (hstop:∀ e pre h',Sp pre -> R pre e h' -> Q e ⟨st.t,h'⟩):uD P opn n0 (.rf g ps ms body) Q st:=by
 intro code hc X n hd a w hX r
 cases code with
 | rangeFunc g' ps' ca cb =>
  simp only [ZA] at hc
  split at hc
  ·rename_i ms' b' hms hcb
   simp only [BA,CC.rf.injEq] at hc
   obtain ⟨rfl,rfl,rfl,rfl⟩:=hc
   have hBw:BW X w:=r.bw
   have hgv:=r.sees g'
   rw [hg] at hgv
   obtain ⟨hcall,hnp,hit⟩:=hit
   have hbadlt:∀ g,iB X.M0 st.h hd g -> g < w.heap.size:=fun g hg=>by
    rcases hg with hm | ⟨b,k,hk,_,hb⟩
    ·exact r.M0_lt g hm
    ·exact (r.heap.lt hk hb).2
   obtain ⟨vs,hev,hvs⟩:∃ vs:List Value,a.eval g' = .func (.func gf) #[] vs.toArray /\ PW (VR w (iB X.M0 st.h hd) [] bE) caps vs:=by
    generalize a.eval g' = u at hgv
    cases hgv with
    | one _ _ hx =>
     cases hx with
     | fn _ _ vs hl hv=>exact ⟨vs,rfl,hl,fun i c v h1 h2=>(hv i c v h1 h2).closed (hcaps c (List.mem_of_getElem? h1))⟩
   obtain ⟨enc,henc,hseq⟩:=hit w _ vs ⟨hbadlt,r.gbad⟩ hvs
   have hps:∀ x,((enc x).toArray).size = ps'.size:=fun x=>by
    have h1:=(henc x).1
    have h2:=hnp x
    simp only [List.size_toArray]
    rw [<- h1,h2]
    simp
   refine rf_core hcb r hev hcall hseq hps Inv hInv0 R (fun x=>mvT ms' (VG ps'.toList (encs x) st.t)) hBw (fun x a' _=>a' = mvA ms' { tmps:=(ps'.zip ((enc x).toArray)).foldl (fun t (p,v)=>t.setIfInBounds p v) a.tmps,defers:=[] }) (fun _ _ _ _ _ _ hs _ _=>hs)
    (fun F m l pre x W K hi hK=>wQ _ hms (hK _ _ (KeepsFrom.refl _ _) ⟨EA _,fun _ _ _ _ _ _ h=>h⟩ hi rfl)) ?_ hround hdone hstop
   rintro x a' W hh hdI pre hinv rI rfl
   have hTr:Tr w (iB X.M0 st.h hd) st.h hd W (iB X.M0 hh hdI) hh hdI:=rI.tr
   refine ⟨mv_pw ms' _ _ ?_,by rw [vQ]⟩
   exact lJ henc r.slots hTr
  ·cases hc
  ·cases hc
 | region id ops drawn=>simp only [ZA] at hc;rcases eE hc with ⟨_,h⟩ | ⟨_,_,h⟩ <;> cases h
 | seq c x=>simp only [ZA] at hc;split at hc <;> cases hc
 | cond c x y=>simp only [ZA] at hc;split at hc <;> cases hc
 | block id c=>simp [ZA] at hc
 | scope c=>simp [ZA] at hc
 | loop c=>simp [ZA] at hc
 | _=>cases hc
end Go.Am
