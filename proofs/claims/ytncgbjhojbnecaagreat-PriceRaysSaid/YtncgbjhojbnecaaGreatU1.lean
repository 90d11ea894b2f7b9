/- The abstract memory: 'cstep_ok'. -/
import Derived.Test.YtncgbjhojbnecaaGreatU0
set_option linter.unusedSimpArgs false
set_option linter.unusedVariables false
set_option linter.unnecessarySimpa false
open Option renaming some -> PA, bind_eq_some_iff -> CA, map_eq_some_iff -> AA, none -> QA
open Prod.mk renaming injEq -> MA
open Bool renaming true -> SA, false -> TA, false_eq_true -> IA, and_eq_true -> JA
open Nat renaming le_refl -> EA, le_trans -> GA, zero_le -> fN, lt_of_lt_of_le -> HA
open List renaming length_nil -> pA, getElem?_eq_some_iff -> dA, getElem?_eq_getElem -> aA, nil_append -> qA, mem_map -> yA, length_map -> eA
open Option.some renaming injEq -> BA
open Int renaming toNat_of_nonneg -> OA
namespace Go.Am
open Go.RowKit
variable {P:Program} {w w1 w2 w':World} {M0:Nat -> Prop} {h h1 h2 h':List Blk} {hd hd1 hd2 hd':Nat -> Value} {B0:Nat} {bad:Nat -> Prop}
theorem GT {st:St} {ρ:Operand -> Value} (hρ:Sees w bad st hd ρ) (x:Option Operand):rel? w bad st.h hd (x.map st.ev) (x.map ρ):=by
 cases x with
 | none=>trivial
 | some x=>exact hρ x
section ops
variable {st:St} {ρ:Operand -> Value} (H:HR B0 M0 w st.h hd) (hM:∀ g,M0 g -> g < w.heap.size) (hB:B0 <= w.heap.size) (hρ:Sees w (iB M0 st.h hd) st hd ρ)
include H hρ
theorem ok_slice (hM:∀ g,M0 g -> g < w.heap.size) {t e:TypeId} {s:Nat} (ht:P.underlying t = PA (.slice e)) (hsz:rE P e = PA s) {x:Operand} {lo hi mx:Option Operand} {av:AV} {h':List Blk}
  (hs:cstep st (.slice s x lo hi mx) = PA (av,h')):GV P B0 M0 w st.h hd (Instr.sliceAt t (ρ x) (lo.map ρ) (hi.map ρ) (mx.map ρ)) av h':=by
 have hat:(Instr.sliceAt t (ρ x) (lo.map ρ) (hi.map ρ) (mx.map ρ)).run P w = (Instr.slice t (ρ x) (lo.map ρ) (hi.map ρ) (mx.map ρ)).run P w:=by
  simp [Instr.sliceAt,run_underlying ht,Result.andThen]
 have hlo:=GT hρ lo
 have hhi:=GT hρ hi
 have hx:=hρ x
 simp only [cstep] at hs
 split at hs
 ·rename_i e' l hev
  rw [hev] at hx
  rcases NM hx with ⟨g,off,cap,hv,hcr⟩ | ⟨rfl,ad,hv⟩
  rotate_left
  ·split at hs
   ·rename_i hee
    subst hee
    split at hs
    ·simp only [CA,AA,MA] at hs
     obtain ⟨b,hb,a,ha,rfl,rfl⟩:=hs
     obtain ⟨hr,h1,h2⟩:=JF (P:=P) (w:=w) (isSlice:=SA) hlo hhi (EA 0) hb ha
     obtain rfl:b = 0:=by simpa using h1
     obtain rfl:a = 0:=by omega
     refine GV.quiet H (v:=.slice (PA ad) 0 0) ?_ (.one _ _ (.c _ _ (.emp _ _)))
     rw [hat,hv]
     simp [Instr.slice,Sem.run_bind,run_underlying ht,Result.andThen,hr,lE hsz,Sem.run_pure]
    ·rename_i m
     simp only [CA] at hs
     obtain ⟨mm,hm,b,hb,a,ha,hs⟩:=hs
     split at hs
     ·rename_i hcond
      obtain ⟨km,im,hmv,hm0,hm1,hmm⟩:=zE (hρ m) hm
      have:=hcond.2.2.2
      have:=hcond.2.1
      simp only [pA] at hm1
      omega
     ·cases hs
   ·cases hs
  split at hs
  ·rename_i hee
   subst hee
   split at hs
   ·simp only [CA,AA,MA] at hs
    obtain ⟨b,hb,a,ha,rfl,rfl⟩:=hs
    obtain ⟨hr,h1,h2⟩:=JF (P:=P) (isSlice:=SA) hlo hhi hcr.len.2 hb ha
    refine GV.quiet H (v:=.slice (if cap = a then PA ⟨g,off,QA⟩ else PA ⟨g,off + a * e',QA⟩) (b - a) (cap - a)) ?_ (.one _ _ (.c _ _ (hcr.cut h1 h2 (GA h1 hcr.len.2) (EA _))))
    rw [hat,hv]
    simp only [Instr.slice,Sem.run_bind,run_underlying ht,Result.andThen,hr,lE hsz,Sem.run_pure,Option.map_some,TC,Option.map_none]
   ·rename_i m
    simp only [CA] at hs
    obtain ⟨mm,hm,b,hb,a,ha,hs⟩:=hs
    split at hs
    ·rename_i hcond
     obtain ⟨rfl,rfl,hsome,hpos⟩:=hcond
     simp only [BA,MA] at hs
     obtain ⟨rfl,rfl⟩:=hs
     obtain ⟨km,im,hmv,hm0,hm1,rfl⟩:=zE (hρ m) hm
     cases hi with
     | none=>cases hsome
     | some hiop =>
      simp only [Option.map_some] at hb hhi
      obtain ⟨kh,ih,hhv,hh0,hh1,hhe⟩:=zE hhi hb
      have e1:(im.toNat:Int) = im:=OA hm0
      have e2:(ih.toNat:Int) = ih:=OA hh0
      have hmh:ih = im:=by omega
      subst hmh
      have hcap:=hcr.len.2
      have hle:ih.toNat <= l.length:=by omega
      have hrun:(Instr.sliceBounds SA l.length cap (lo.map ρ) (PA (ρ hiop)) (PA (ρ m))).run P w = .ok (0,ih.toNat,ih.toNat) w:=by
       have hic:ih <= (cap:Int):=by omega
       have hii:ih <= (ih.toNat:Int):=by omega
       cases lo with
       | none=>simp [Instr.sliceBounds,hmv,hhv,run_sliceBound,hm0,hic,hii,e1,Result.andThen]
       | some lop =>
        obtain ⟨kl,il,hlv,hl0,hl1,hle0⟩:=zE (hρ lop) ha
        have h00:il.toNat = 0:=hle0.symm
        have hil:il = 0:=by omega
        subst hil
        simp [Instr.sliceBounds,hmv,hhv,hlv,run_sliceBound,hm0,hic,hii,e1,Result.andThen]
      have hcut:=hcr.cut (a:=0) (b:=ih.toNat) (m:=ih.toNat) hle (fN _) (EA _) (GA hle hcap)
      have haddr:(if ih.toNat = 0 then PA (⟨g,off,QA⟩:Addr) else PA ⟨g,off + 0 * e',QA⟩) = PA ⟨g,off,QA⟩:=by split <;> simp
      rw [haddr,Nat.sub_zero,List.drop_zero] at hcut
      have hlen:(l.take ih.toNat).length = ih.toNat:=by simp;omega
      refine GV.quiet H (v:=.slice (PA ⟨g,off,QA⟩) ih.toNat ih.toNat) ?_ (.one _ _ ?_)
      ·rw [hat,hv]
       simp only [Instr.slice,Sem.run_bind,run_underlying ht,Result.andThen,Option.map_some,hrun,lE hsz,Sem.run_pure,TC,Nat.zero_mul,Nat.add_zero,ite_self,Nat.sub_zero]
      ·have:=VR.slx (w:=w) (bad:=iB M0 st.h hd) (h:=st.h) (hd:=hd) e' (l.take ih.toNat) g off (by rw [hlen];exact hcut)
       rwa [hlen] at this
    ·cases hs
  ·cases hs
 ·rename_i hev
  rw [hev] at hx
  have hv:=hx.val
  split at hs
  ·rename_i hmx
   simp only [CA,AA,MA] at hs
   obtain ⟨b,hb,a,ha,rfl,rfl⟩:=hs
   have hmx':mx = QA:=by simpa using hmx
   subst hmx'
   have hb0:b = 0:=by
    cases hi with
    | none=>exact UH hb
    | some y=>obtain ⟨k,i,_,_,h1,rfl⟩:=zE (hρ y) hb;omega
   subst hb0
   obtain ⟨hr,h1,h2⟩:=JF (P:=P) (w:=w) (isSlice:=SA) (len:=0) (cap:=0) hlo hhi (EA _) hb ha
   have ha0:a = 0:=by omega
   subst ha0
   refine GV.quiet H (v:=.slice QA 0 0) ?_ (YC rfl)
   rw [hat,hv]
   simp only [Instr.slice,Sem.run_bind,run_underlying ht,Result.andThen,hr,lE hsz,Sem.run_pure,if_true,Option.map_none]
  ·cases hs
 ·rename_i b ver hev
  rw [hev] at hx
  split at hs
  ·rename_i k hk
   split at hs
   ·rename_i hcond
    obtain ⟨hver,hke,hlive⟩:=hcond
    simp only [AA,MA] at hs
    obtain ⟨m,hb,rfl,rfl⟩:=hs
    have hv:=EL hx hk hver
    obtain ⟨hr,xs,ho,hpw⟩:=H.pw hk
    have hblt:=(dA.1 hk).1
    have hcl:m <= k.els.length /\ ∀ cap,k.els.length <= cap -> (Instr.sliceBounds SA k.els.length cap QA (hi.map ρ) QA).run P w = .ok (0,m,cap) w:=by
     refine ⟨?_,fun cap hc=>(JF (P:=P) (isSlice:=SA) (lo:=QA) (vlo:=QA) trivial hhi hc hb rfl).1⟩
     exact (JF (P:=P) (isSlice:=SA) (lo:=QA) (vlo:=QA) trivial hhi (EA _) hb rfl).2.1
    have hflat:(k.els.take m).flatten = k.els.flatten.take (m * k.e):=iH _ _ hr
    have hrow:∀ (i:Nat) (r:List Cell),(k.els.take m)[i]? = PA r -> r.length = k.e:=fun i r hi=>by
     rw [List.getElem?_take] at hi
     split at hi
     ·exact hr i r hi
     ·cases hi
    have fin:∀ v',(Instr.slice t (hd b) QA (hi.map ρ) QA).run P w = .ok v' w -> w.ownsRow B0 k.ty k.e v' m (xs.take (m * k.e)) -> (∀ g,v'.ownBlock = PA g -> (hd b).ownBlock = PA g) -> (v' = .slice QA 0 0 ↔ hd b = .slice QA 0 0) ->
      GV P B0 M0 w st.h hd (Instr.sliceAt t (ρ x) QA (hi.map ρ) QA) (.one (.own b (k.ver + 1))) (st.h.set b { k with ver:=k.ver + 1,els:=k.els.take m }):=fun v' hrun hown hf hnl=>by
     have key:=H.upd (k':={ k with ver:=k.ver + 1,els:=k.els.take m }) hk hlive (PC w _) (v:=v') (xs:=xs.take (m * k.e)) (.inr (Nat.lt_succ_self _)) hrow
      (by simp only [List.length_take,Nat.min_eq_left hcl.1];exact hown) (by
       have:=hpw.take (m * k.e)
       rw [<- hflat] at this
       exact this.2) (fun g hg=>.inl (hf g hg)) hM (by rw [hnl];exact H.nn b k hk)
     refine ⟨v',w,_,_,?_,PC w _,fun g e=>⟨b,k,hk,hlive,e⟩,key.1,key.2,?_⟩
     ·have:=hat
      rw [hv] at this ⊢
      simp only [Option.map_none] at this
      rw [this];exact hrun
     ·exact AVR.own_new (k:={ k with ver:=k.ver + 1,els:=k.els.take m }) (by simp [hblt]) (SC _ _ _) (DG hown)
    rcases ho.2 with ⟨h0,h1⟩ | ⟨g,cap,cur,hh,hBg,hg,hnc,hcm,hcs,htake⟩
    ·have hm0:m = 0:=by omega
     subst hm0
     refine fin (.slice QA 0 0) ?_ ?_ (fun g hg=>by simp [Value.ownBlock] at hg) (by rw [h0])
     ·have hb0:=hcl.2 0 (by omega)
      rw [h1] at hb0
      rw [h0]
      simp only [Instr.slice,Sem.run_bind,run_underlying ht,Result.andThen,hb0,lE hsz,Sem.run_pure,if_true]
     ·simp only [Nat.zero_mul,List.take_zero]
      exact World.ownsRow_nil w B0 k.ty k.e
    ·refine fin (.slice (PA ⟨g,0,QA⟩) m cap) ?_ ?_ (fun g' hg'=>by rw [hh];simpa [Value.ownBlock] using hg') (by rw [hh];simp)
     ·rw [hh]
      simp only [Instr.slice,Sem.run_bind,run_underlying ht,Result.andThen,hcl.2 cap hnc,lE hsz,Sem.run_pure,Option.map_some,TC,Nat.zero_mul,Nat.add_zero,ite_self,Nat.sub_zero]
     ·have hml:=hcl.1
      refine ⟨?_,.inr ⟨g,cap,cur,rfl,hBg,hg,by omega,hcm,hcs,?_⟩⟩
      ·rw [List.length_take,ho.1];exact Nat.min_eq_left (Nat.mul_le_mul_right _ hml)
      ·rw [<- htake,List.take_take,Nat.min_eq_left (Nat.mul_le_mul_right _ hml)]
   ·cases hs
  ·cases hs
 ·cases hs
theorem ok_sslice {t:TypeId} (ht:P.underlying t = PA .string) {x:Operand} {lo hi:Option Operand} {av:AV} {h':List Blk}
  (hs:cstep st (.sslice x lo hi) = PA (av,h')):GV P B0 M0 w st.h hd (Instr.sliceAt t (ρ x) (lo.map ρ) (hi.map ρ) QA) av h':=by
 simp only [cstep,CA,AA,MA] at hs
 obtain ⟨s,hsx,b,hb,a,ha,rfl,rfl⟩:=hs
 have hv:=(hρ x).str hsx
 obtain ⟨hr,h1,h2⟩:=JF (P:=P) (isSlice:=TA) (GT hρ lo) (GT hρ hi) (EA _) hb ha
 refine GV.quiet H (v:=.string ⟨((s.take b).drop a).toArray⟩) ?_ bP
 rw [hv]
 simp only [Instr.sliceAt,Instr.slice,Sem.run_bind,run_underlying ht,Result.andThen,Option.isSome_none,IA,if_false,eK,hr,Sem.run_pure,str_extract]
theorem ok_faddr {s:TypeId} {fs:Array Field} {f:Field} {i n:Nat} (ht:P.underlying s = PA (.struct fs)) (hf:fs[i]? = PA f) (hn:rE P f.type = PA n) (hn0:n ≠ 0) {x:Operand} {av:AV} {h':List Blk}
  (hs:cstep st (.faddr f.offset x) = PA (av,h')):GV P B0 M0 w st.h hd (Instr.fieldAt s (ρ x) i) av h':=by
 have hrun:∀ g o,ρ x = .pointer (PA ⟨g,o,QA⟩) -> (Instr.fieldAt s (ρ x) i).run P w = .ok (.pointer (PA ⟨g,o + f.offset,QA⟩)) w:=fun g o he=>by
  rw [he]
  simp only [Instr.fieldAt,Instr.sureAddr,fieldPlace,Sem.run_bind,run_underlying ht,Result.andThen,hf,Sem.run_pure,lE hn,hn0,if_false,TC]
 have hx:=hρ x
 simp only [cstep] at hs
 split at hs
 ·rename_i b ver i' o hev
  rw [hev] at hx
  cases hk:st.h[b]? with
  | none=>simp [hk] at hs
  | some k =>
   simp only [hk] at hs
   split at hs
   ·rename_i hver
    simp only [BA,MA] at hs
    obtain ⟨rfl,rfl⟩:=hs
    rcases QO hx with ⟨blk,g,n',cap,hb,hh,hv,hbv⟩ | ⟨blk,hb,hlt,_⟩
    ·refine GV.quiet H (hrun _ _ hv) (.one _ _ ?_)
     rw [hbv,Nat.add_assoc]
     exact .ptr b i' (o + f.offset) blk g n' cap hb hh
    ·rw [hk] at hb;cases hb;omega
   ·cases hs
 ·rename_i l hev
  rw [hev] at hx
  simp only [BA,MA] at hs
  obtain ⟨rfl,rfl⟩:=hs
  obtain ⟨g,off,hv,ha⟩:=pN (n:=f.offset) hx
  exact GV.quiet H (hrun _ _ hv) ha
 ·cases hs
theorem ok_nilchk {x:Operand} {av:AV} {h':List Blk} (hs:cstep st (.faddr 0 x) = PA (av,h')):(∃ g o,ρ x = .pointer (PA ⟨g,o,QA⟩)) /\ GV P B0 M0 w st.h hd (pure (ρ x)) av h':=by
 have hx:=hρ x
 simp only [cstep] at hs
 split at hs
 ·rename_i b ver i' o hev
  rw [hev] at hx
  cases hk:st.h[b]? with
  | none=>simp [hk] at hs
  | some k =>
   simp only [hk] at hs
   split at hs
   ·rename_i hver
    simp only [BA,MA] at hs
    obtain ⟨rfl,rfl⟩:=hs
    rcases QO hx with ⟨blk,g,n',cap,hb,hh,hv,hbv⟩ | ⟨blk,hb,hlt,_⟩
    ·refine ⟨⟨g,_,hv⟩,GV.quiet H (Sem.run_pure _ _ _) (.one _ _ ?_)⟩
     rw [hbv,hv,Nat.add_zero]
     exact .ptr b i' o blk g n' cap hb hh
    ·rw [hk] at hb;cases hb;omega
   ·cases hs
 ·rename_i l hev
  rw [hev] at hx
  simp only [BA,MA] at hs
  obtain ⟨rfl,rfl⟩:=hs
  obtain ⟨g,off,hv,ha⟩:=pN (n:=0) hx
  rw [Nat.add_zero] at ha
  exact ⟨⟨g,off,hv⟩,GV.quiet H (by rw [hv];exact Sem.run_pure _ _ _) ha⟩
 ·cases hs
theorem ok_field {s:TypeId} {fs:Array Field} {f:Field} {i n:Nat} {ag:Bool} (ht:P.underlying s = PA (.struct fs)) (hf:fs[i]? = PA f) (hn:rE P f.type = PA n) (hag:aggT P f.type = PA ag) (h1:ag = SA \/ n = 1)
  {x:Operand} {av:AV} {h':List Blk} (hs:cstep st (.field f.offset n ag x) = PA (av,h')):GV P B0 M0 w st.h hd (Instr.field s (ρ x) i) av h':=by
 have hx:=hρ x
 simp only [cstep] at hs
 split at hs
 ·rename_i cs hev
  rw [hev] at hx
  split at hs
  ·rename_i hle
   simp only [AA,MA] at hs
   obtain ⟨v,hm,rfl,rfl⟩:=hs
   cases hxv:ρ x with
   | agg vs =>
    rw [hxv] at hx
    have hpw:=hx.pw (cs:=cs) rfl
    simp only [Value.cells] at hpw
    have hpw':=(hpw.drop f.offset).take n
    have hl:vs.size = cs.length:=by have:=hpw.1;simp at this;omega
    rcases mkAV_of hm hpw'.1 hpw'.2 with ⟨rfl,ha⟩ | ⟨rfl,u,hu,ha⟩
    ·refine GV.quiet H ?_ ha
     simp only [Instr.field,part,asAgg,Sem.run_bind,run_underlying ht,Result.andThen,hf,Sem.run_pure,aggT_run hag,if_true,lE hn]
     congr 2
     apply Array.ext'
     simp [List.drop_take]
    ·have hn1:n = 1:=by rcases h1 with h | h;· cases h
                        ·exact h
     subst hn1
     refine GV.quiet H ?_ ha
     have hget:vs[f.offset]? = PA u:=by
      have:=congrArg (·[0]?) hu
      simp at this
      simpa using this
     simp only [Instr.field,part,asAgg,Sem.run_bind,run_underlying ht,Result.andThen,hf,Sem.run_pure,aggT_run hag,IA,if_false,hget]
   | _=>rw [hxv] at hx;cases hx
  ·cases hs
 ·cases hs
theorem ok_iaddr {t:TypeId} {e:TypeId} {s:Nat} {arr:Option Nat} (ht:(arr = QA /\ P.underlying t = PA (.slice e)) \/ (∃ n,arr = PA n /\ P.underlying t = PA (.array n e))) (hsz:rE P e = PA s) {x i:Operand} {av:AV} {h':List Blk}
  (hs:cstep st (.iaddr s arr x i) = PA (av,h')):GV P B0 M0 w st.h hd (Instr.indexAt t (ρ x) (ρ i)) av h':=by
 have hx:=hρ x
 simp only [cstep] at hs
 cases hi:(st.ev i).int? with
 | none=>simp [hi] at hs
 | some p =>
  obtain ⟨ki,j⟩:=p
  have hiv:ρ i = .int ki j:=(hρ i).int hi
  simp only [hi] at hs
  have slice:∀ g off n cap,arr = QA -> ρ x = .slice (PA ⟨g,off,QA⟩) n cap -> 0 <= j -> j < n -> (Instr.indexAt t (ρ x) (ρ i)).run P w = .ok (.pointer (PA ⟨g,off + j.toNat * s,QA⟩)) w:=fun g off n cap ha hv h0 h1=>by
   rcases ht with ⟨_,ht⟩ | ⟨n,hn,_⟩
   ·rw [hv,hiv]
    have:0 <= j /\ j < (n:Int):=⟨h0,h1⟩
    simp only [Instr.indexAt,asIntOf,Sem.run_bind,run_underlying ht,Result.andThen,Sem.run_pure,Sem.run_ite,this,and_self,if_true,lE hsz,TC]
   ·rw [ha] at hn;cases hn
  have array:∀ g off n,arr = PA n -> ρ x = .pointer (PA ⟨g,off,QA⟩) -> 0 <= j -> j < n -> (Instr.indexAt t (ρ x) (ρ i)).run P w = .ok (.pointer (PA ⟨g,off + j.toNat * s,QA⟩)) w:=fun g off n ha hv h0 h1=>by
   rcases ht with ⟨hn,_⟩ | ⟨n',hn,ht⟩
   ·rw [ha] at hn;cases hn
   ·rw [ha] at hn;cases hn
    rw [hv,hiv]
    have:0 <= j /\ j < (n:Int):=⟨h0,h1⟩
    simp only [Instr.indexAt,Instr.sureAddr,asIntOf,Sem.run_bind,run_underlying ht,Result.andThen,Sem.run_pure,Sem.run_ite,this,and_self,if_true,lE hsz,TC]
  split at hs
  ·rename_i b ver hev
   rw [hev] at hx
   cases hk:st.h[b]? with
   | none=>simp [hk] at hs
   | some k =>
    simp only [hk] at hs
    split at hs
    ·rename_i hc
     obtain ⟨hver,hke,h0,h1⟩:=hc
     simp only [BA,MA] at hs
     obtain ⟨rfl,rfl⟩:=hs
     have hv:=EL hx hk hver
     obtain ⟨g,cap,hh⟩:=H.hasRow hk (i:=j.toNat) (aA (by omega))
     refine GV.quiet H (slice g 0 k.els.length cap rfl (hv.trans hh) h0 h1) (.one _ _ ?_)
     rw [hver,Nat.zero_add,<- hke]
     exact .ptr b j.toNat 0 k g _ cap hk hh
    ·cases hs
  ·rename_i e' l hev
   rw [hev] at hx
   split at hs
   ·rename_i hc
    obtain ⟨rfl,h0⟩:=hc
    cases hl:l[j.toNat]? with
    | none=>simp [hl] at hs
    | some r =>
     simp only [hl,BA,MA] at hs
     obtain ⟨rfl,rfl⟩:=hs
     rcases NM hx with ⟨g,off,cap,hv,hcr⟩ | ⟨rfl,_⟩
     rotate_left
     ·simp at hl
     have hlt:=(dA.1 hl).1
     exact GV.quiet H (slice g off l.length cap rfl hv h0 (by omega)) (sl_elem hcr hl)
   ·cases hs
  ·rename_i e' l hev
   rw [hev] at hx
   split at hs
   ·rename_i hc
    obtain ⟨rfl,h0⟩:=hc
    cases hl:l[j.toNat]? with
    | none=>simp [hl] at hs
    | some r =>
     simp only [hl,BA,MA] at hs
     obtain ⟨rfl,rfl⟩:=hs
     obtain ⟨g,off,hv,hcr⟩:=slx_slice hx
     have hlt:=(dA.1 hl).1
     exact GV.quiet H (slice g off l.length l.length rfl hv h0 (by omega)) (sl_elem hcr hl)
   ·cases hs
  ·rename_i n b ver i' off hev
   rw [hev] at hx
   cases hk:st.h[b]? with
   | none=>simp [hk] at hs
   | some k =>
    simp only [hk] at hs
    split at hs
    ·rename_i hc
     obtain ⟨hver,_,h0,h1⟩:=hc
     simp only [BA,MA] at hs
     obtain ⟨rfl,rfl⟩:=hs
     rcases QO hx with ⟨blk,g,n',cap,hb,hh,hv,hbv⟩ | ⟨blk,hb,hlt,_⟩
     ·refine GV.quiet H (array g _ n rfl hv h0 h1) (.one _ _ ?_)
      rw [hbv,Nat.add_assoc]
      exact .ptr b i' _ blk g n' cap hb hh
     ·rw [hk] at hb;cases hb;omega
    ·cases hs
  ·rename_i n l hev
   rw [hev] at hx
   split at hs
   ·rename_i hc
    simp only [BA,MA] at hs
    obtain ⟨rfl,rfl⟩:=hs
    obtain ⟨g,off,hv,ha⟩:=pN (n:=j.toNat * s) hx
    exact GV.quiet H (array g off n rfl hv hc.1 hc.2) ha
   ·cases hs
  ·cases hs
end ops
end Go.Am
namespace Go.Am
open Go.RowKit
variable {P:Program} {w:World} {M0:Nat -> Prop} {hd:Nat -> Value} {B0:Nat}
theorem cstep_ok {st:St} {ρ:Operand -> Value} (H:HR B0 M0 w st.h hd) (hM:∀ g,M0 g -> g < w.heap.size) (hB:B0 <= w.heap.size) (hρ:Sees w (iB M0 st.h hd) st hd ρ)
  {o:Oper} {c:COp} {av:AV} {h':List Blk} (hc:cop P o = PA c) (hs:cstep st c = PA (av,h')):GN P B0 M0 w st.h hd (execOp ρ o) o.dst av h':=by
 obtain ⟨dst,op,type,pos,after,guard⟩:=o
 cases op with
 | move x | assign x =>
  simp only [cop,BA] at hc
  subst hc
  simp only [cstep,BA,MA] at hs
  obtain ⟨rfl,rfl⟩:=hs
  exact GN.quiet H (by simp [execOp]) (hρ x)
 | pick c a b =>
  simp only [cop,BA] at hc
  subst hc
  simp only [cstep,AA,MA] at hs
  obtain ⟨t,ht,rfl,rfl⟩:=hs
  have hcv:=(hρ c).bool ht
  refine GN.quiet H (v:=if t then ρ a else ρ b) ?_ ?_
  ·simp [execOp,hcv,asBool,Result.andThen]
  ·cases t
   ·exact hρ b
   ·exact hρ a
 | alloc t =>
  simp only [cop,CA] at hc
  obtain ⟨zs,hz,hc⟩:=hc
  split at hc
  ·rename_i h1
   simp only [BA] at hc
   subst hc
   simp only [cstep,BA,MA] at hs
   obtain ⟨rfl,rfl⟩:=hs
   exact (gv_alloc H hM hB hz h1).next
  ·cases hc
 | box t x =>
  simp only [cop,BA] at hc
  subst hc
  simp only [cstep,AA,MA] at hs
  obtain ⟨cs,hcs,rfl,rfl⟩:=hs
  exact (gv_box H hM hB (hρ x) hcs).next
 | build t parts =>
  have hc':=hc
  simp only [cop] at hc
  split at hc
  ·split at hc
   ·simp only [CA,BA] at hc
    obtain ⟨ps',hm,rfl⟩:=hc
    exact (ok_build H hρ (t:=t) (parts:=parts) (by simpa only [cop] using hc') hs).next
   ·cases hc
  ·split at hc
   ·simp only [AA] at hc
    obtain ⟨s,hs1,rfl⟩:=hc
    exact (ok_build H hρ (t:=t) (parts:=parts) (by simpa only [cop] using hc') hs).next
   ·cases hc
  ·cases hc
 | buildSlice t len parts =>
  have hc':=hc
  simp only [cop] at hc
  split at hc
  ·split at hc
   ·split at hc
    ·simp only [BA] at hc
     subst hc
     exact (ok_mkrow H hM hB hρ (t:=t) (len:=len) (parts:=parts) (by simpa only [cop] using hc') hs).next
    ·cases hc
   ·cases hc
  ·cases hc
 | load t x =>
  simp only [cop] at hc
  split at hc
  ·rename_i n ag hn hag
   split at hc
   ·rename_i h1
    simp only [BA] at hc
    subst hc
    simp only [cstep,CA,AA,MA] at hs
    obtain ⟨cs,hr,v,hm,rfl,rfl⟩:=hs
    exact (gv_load H hn hag (by simpa using h1) (hρ x) hr hm).next
   ·cases hc
  ·cases hc
 | store t x y =>
  simp only [cop] at hc
  split at hc
  ·rename_i hdn
   simp only [AA] at hc
   obtain ⟨n,hn,rfl⟩:=hc
   simp only [cstep,CA] at hs
   obtain ⟨cs,hcs,hs⟩:=hs
   split at hs
   ·rename_i hl
    simp only [AA,MA] at hs
    obtain ⟨h2,hp,rfl,rfl⟩:=hs
    exact (gu_store H hM hn (hρ x) (hρ y) hcs hl hp).next (by simpa using hdn)
   ·cases hs
  ·cases hc
 | binOp op t x y yt =>
  have bin:∀ {av:AV} {h':List Blk},cstep st (.bin op x y) = PA (av,h') -> GN P B0 M0 w st.h hd (execOp ρ ⟨dst,.binOp op t x y yt,type,pos,after,guard⟩) dst av h':=fun {av h'} hs=>by
   simp only [cstep,AA,MA] at hs
   obtain ⟨v,hb,rfl,rfl⟩:=hs
   obtain ⟨r,hr,ha⟩:=run_binAV (P:=P) (t:=t) (x:=x) (y:=y) (hρ x) (hρ y) hb
   exact (GV.quiet H hr ha).next
  have eq:∀ (neg:Bool),op = (if neg then .neq else .eql) -> JM P neg t x y = PA c -> GN P B0 M0 w st.h hd (execOp ρ ⟨dst,.binOp op t x y yt,type,pos,after,guard⟩) dst av h':=fun neg hop hce=>by
   unfold JM at hce
   split at hce
   ·rename_i hu
    simp only [BA] at hce
    subst hce
    simp only [cstep] at hs
    split at hs
    ·rename_i p q hp hq
     simp only [BA,MA] at hs
     obtain ⟨rfl,rfl⟩:=hs
     have h1:=(hρ x).bool hp
     have h2:=(hρ y).bool hq
     refine (GV.quiet H (s:=do eqGuard op t x y (ρ x) (ρ y);binOp op t (ρ x) (ρ y)) ?_ (YC rfl)).next
     rw [h1,h2,hop]
     exact run_beq hu neg
    ·cases hs
   ·simp only [BA] at hce
    subst hce
    rw [<- hop] at hs
    exact bin hs
   ·simp only [BA] at hce
    subst hce
    rw [<- hop] at hs
    exact bin hs
   ·rename_i e hu
    split at hce
    ·rename_i hnil
     simp only [BA] at hce
     subst hce
     simp only [cstep,AA,MA] at hs
     obtain ⟨b,hb,rfl,rfl⟩:=hs
     have hy:ρ y = .slice QA 0 0:=by
      unfold DQ at hnil
      split at hnil
      ·have:=hρ (.const (.slice QA 0 0))
       exact this.val
      ·cases hnil
     rcases XN H (hρ x) hb with ⟨_,p,l,c,hv,rfl⟩ | ⟨h0,_⟩
     ·refine (GV.quiet H (s:=do eqGuard op t x y (ρ x) (ρ y);binOp op t (ρ x) (ρ y)) ?_ (YC rfl)).next
      rw [hv,hy,hop]
      exact eO hu p l c neg
     ·cases h0
    ·cases hce
   ·rename_i ps rs vr hu
    split at hce
    ·rename_i hnil
     simp only [BA] at hce
     subst hce
     simp only [cstep,AA,MA] at hs
     obtain ⟨b,hb,rfl,rfl⟩:=hs
     have hy:ρ y = .nilFunc:=by
      unfold LS at hnil
      split at hnil
      ·have:=hρ (.const .nilFunc)
       exact this.val
      ·cases hnil
     rcases XN H (hρ x) hb with ⟨h0,_⟩ | ⟨_,hv⟩
     ·cases h0
     ·refine (GV.quiet H (s:=do eqGuard op t x y (ρ x) (ρ y);binOp op t (ρ x) (ρ y)) ?_ (YC rfl)).next
      rw [hy,hop]
      exact zP hu hv neg
    ·cases hce
   ·rename_i fs hu
    split at hce
    ·rename_i hall
     simp only [JA,Bool.not_eq_true'] at hall
     simp only [BA] at hce
     subst hce
     simp only [cstep] at hs
     split at hs
     ·rename_i a b hxa hyb
      simp only [CA] at hs
      obtain ⟨s,hs1,r,hr1,hs⟩:=hs
      split at hs
      ·rename_i hlen
       simp only [BA,MA] at hs
       obtain ⟨rfl,rfl⟩:=hs
       have h1:=hρ x
       have h2:=hρ y
       rw [hxa,kJ a s hs1] at h1
       rw [hyb,kJ b r hr1] at h2
       refine (GV.quiet H (s:=do eqGuard op t x y (ρ x) (ρ y);binOp op t (ρ x) (ρ y)) ?_ (YC rfl)).next
       rw [h1.strs,h2.strs,hop]
       exact run_aggeq hu hall.1.1 hall.1.2 hall.2 s r hlen.1 hlen.2 neg
      ·cases hs
     ·cases hs
    ·cases hce
   ·cases hce
  cases op <;> simp only [cop,BA] at hc
  case eql=>exact eq TA rfl hc
  case neq=>exact eq SA rfl hc
  all_goals (subst hc;exact bin hs)
 | unOp op t x =>
  simp only [cop,BA] at hc
  subst hc
  have hx:=hρ x
  simp only [cstep] at hs
  split at hs
  ·rename_i b hev
   rw [hev] at hx
   simp only [BA,MA] at hs
   obtain ⟨rfl,rfl⟩:=hs
   exact GN.quiet H (v:=.bool (!b)) (by simp [execOp,hx.val,Op.unary,Result.andThen]) (YC rfl)
  ·rename_i k n hev
   rw [hev] at hx
   simp only [BA,MA] at hs
   obtain ⟨rfl,rfl⟩:=hs
   exact GN.quiet H (v:=.int k (k.wrap (0 - n))) (by simp [execOp,hx.val,Op.unary,Op.intArith,Result.andThen]) (YC rfl)
  ·cases hs
 | convert s d x =>
  simp only [cop] at hc
  split at hc
  ·rename_i k1 k2 hu1 hu2
   simp only [BA] at hc
   subst hc
   simp only [cstep,AA,MA] at hs
   obtain ⟨n,hn,rfl,rfl⟩:=hs
   have hv:=(hρ x).int hn
   exact GN.quiet H (v:=.int k2 (k2.wrap n.2)) (by simp [execOp,convert,run_underlying hu1,run_underlying hu2,hv,Conv.intToInt,Result.andThen]) (YC rfl)
  ·rename_i e hu1 hu2
   split at hc
   ·rename_i hu3
    simp only [BA] at hc
    subst hc
    simp only [cstep,CA,AA,MA] at hs
    obtain ⟨es,hes,bs,hbs,rfl,rfl⟩:=hs
    obtain ⟨hrow,hcase⟩:=DF H (hρ x) hes
    refine GN.quiet H (v:=.string ⟨bs.toArray⟩) ?_ bP
    have hrun:(Conv.bytesToString (ρ x)).run P w = .ok (.string ⟨bs.toArray⟩) w:=by
     rcases hcase with ⟨h0,rfl⟩ | ⟨g,off,cap,hv,hcap,hl⟩ | ⟨rfl,ad,hv⟩
     ·simp only [eF,BA] at hbs
      subst hbs
      rw [h0];rfl
     rotate_left
     ·have hload:=run_loadCells_list (P:=P) w ad [] (fun j v hj=>by simp at hj)
      simp only [eF,BA] at hbs
      subst hbs
      rw [hv,run_bytesToString w ad 0 0 [] hload]
      rfl
     ·obtain ⟨news,hpw,hcells⟩:=EF.values _ _ hl
      obtain ⟨ns,h1,h2⟩:=bytes_run hbs hpw
      have hlen:news.length = es.length:=by rw [<- hpw.1,vF _ hrow,Nat.mul_one]
      have hload:=run_loadCells_list (P:=P) w ⟨g,off,QA⟩ news (fun j v hj=>by rw [TC];exact hcells j v hj)
      rw [hlen,h1] at hload
      rw [hv,run_bytesToString w _ _ _ ns hload]
      have:=foldl_push ns []
      simp only [qA] at this
      rw [h2,<- this]
      rfl
    have hconv:(convert s d (ρ x)).run P w = (Conv.bytesToString (ρ x)).run P w:=by
     rcases hcase with ⟨h0,rfl⟩ | ⟨g,off,cap,hv,hcap,hl⟩ | ⟨rfl,ad,hv⟩
     ·rw [h0];exact run_convert_bytes_string w s d e _ _ _ hu1 hu3 hu2
     ·rw [hv];exact run_convert_bytes_string w s d e _ _ _ hu1 hu3 hu2
     ·rw [hv];exact run_convert_bytes_string w s d e _ _ _ hu1 hu3 hu2
    simp [execOp,hconv,hrun,Result.andThen]
   ·cases hc
  ·cases hc
 | makeFunc fn first caps =>
  cases fn with
  | func f =>
   simp only [cop] at hc
   split at hc
   ·rename_i hfirst
    simp only [BA] at hc
    subst hc
    simp only [cstep,AA,MA] at hs
    obtain ⟨cs,hm,rfl,rfl⟩:=hs
    obtain ⟨hl,hh⟩:=IS hρ caps.toList cs hm
    have hf0:first = #[]:=by simpa using hfirst
    subst hf0
    refine GN.quiet H (v:=.func (.func f) #[] (caps.toList.map ρ).toArray) ?_ (.one _ _ (.fn f cs (caps.toList.map ρ) (by simp [hl]) hh))
    simp [execOp,Instr.makeFunc,Result.andThen]
    apply Array.ext';simp
   ·split at hc
    ·rename_i x hf1 hc1
     simp only [BA] at hc
     subst hc
     simp only [cstep] at hs
     split at hs
     ·rename_i c hev
      simp only [BA,MA] at hs
      obtain ⟨rfl,rfl⟩:=hs
      have hf2:first = #[x]:=by apply Array.ext';simpa using hf1
      have hc2:caps = #[]:=by apply Array.ext';simpa using hc1
      subst hf2 hc2
      have hx:=hρ x
      rw [hev] at hx
      cases hx with
      | one _ _ hx =>
       refine GN.quiet H (v:=.func (.func f) #[ρ x] #[]) ?_ (.one _ _ (.mfn f c _ hx))
       simp [execOp,Instr.makeFunc,Result.andThen]
     ·cases hs
    ·cases hc
  | _=>simp [cop] at hc
 | makeSlice t l c =>
  simp only [cop] at hc
  split at hc
  ·rename_i e hu
   split at hc
   ·rename_i i hi
    split at hc
    ·rename_i z hz
     split at hc
     ·rename_i hcond
      simp only [BA] at hc
      subst hc
      simp only [cstep] at hs
      split at hs
      ·rename_i k1 n k2 m hl hm
       split at hs
       ·rename_i hnm
        obtain ⟨rfl,h0,hb,h63⟩:=hnm
        simp only [BA,MA] at hs
        obtain ⟨rfl,rfl⟩:=hs
        have h1:ρ l = .int k1 n:=(hρ l).int hl
        have h2:ρ c = .int k2 n:=(hρ c).int hm
        have:=(gv_make H hM hB hu hi hz hcond.1 hcond.2.1 hcond.2.2 (kl:=k1) (kc:=k2) h0 hb h63).next (dst:=dst)
        rw [<- h1,<- h2] at this
        exact this
       ·cases hs
      ·cases hs
     ·cases hc
    ·cases hc
   ·cases hc
  ·cases hc
 | slice t x lo hi mx =>
  simp only [cop] at hc
  split at hc
  ·rename_i e hu
   simp only [AA] at hc
   obtain ⟨s,hsz,rfl⟩:=hc
   exact (ok_slice H hρ hM hu hsz hs).next
  ·rename_i hu
   split at hc
   ·rename_i hmx
    simp only [BA] at hc
    subst hc
    have:mx = QA:=by simpa using hmx
    subst this
    exact (ok_sslice H hρ hu hs).next
   ·cases hc
  ·cases hc
 | fieldAddr s x f =>
  simp only [cop] at hc
  split at hc
  ·rename_i fs hu
   simp only [CA] at hc
   obtain ⟨fd,hf,n,hn,hc⟩:=hc
   split at hc
   ·cases hc
   ·rename_i hn0
    simp only [BA] at hc
    subst hc
    exact (ok_faddr H hρ hu hf hn hn0 hs).next
  ·cases hc
 | nilCheck x =>
  simp only [cop,BA] at hc
  subst hc
  obtain ⟨⟨g,o,hv⟩,hg⟩:=ok_nilchk (P:=P) H hρ hs
  have e:execOp ρ { dst:=dst,op:=Op.nilCheck x,type:=type,pos:=pos,after:=after,guard:=guard } = (do pure (Next.value (<- pure (ρ x)))):=by
   unfold execOp
   simp only [hv]
   rfl
  rw [e]
  exact hg.next
 | field s x f =>
  simp only [cop] at hc
  split at hc
  ·rename_i fs hu
   simp only [CA] at hc
   obtain ⟨fd,hf,hc⟩:=hc
   split at hc
   ·rename_i n ag hn hag
    split at hc
    ·rename_i h1
     simp only [BA] at hc
     subst hc
     exact (ok_field H hρ hu hf hn hag (by simpa using h1) hs).next
    ·cases hc
   ·cases hc
  ·cases hc
 | indexAddr t x i =>
  simp only [cop] at hc
  split at hc
  ·rename_i e hu
   simp only [AA] at hc
   obtain ⟨s,hsz,rfl⟩:=hc
   exact (ok_iaddr H hρ (.inl ⟨rfl,hu⟩) hsz hs).next
  ·rename_i n e hu
   simp only [AA] at hc
   obtain ⟨s,hsz,rfl⟩:=hc
   exact (ok_iaddr H hρ (.inr ⟨n,rfl,hu⟩) hsz hs).next
  ·cases hc
 | index t x i =>
  simp only [cop] at hc
  split at hc
  ·rename_i hu
   simp only [BA] at hc
   subst hc
   simp only [cstep] at hs
   split at hs
   ·rename_i s k j hsx hj
    split at hs
    ·rename_i h0
     simp only [AA,MA] at hs
     obtain ⟨b,hb,rfl,rfl⟩:=hs
     have h1:=(hρ x).str hsx
     have h2:ρ i = .int k j:=(hρ i).int hj
     refine GN.quiet H (v:=.int .u8 b.toNat) ?_ (YC rfl)
     have hg:(⟨s.toArray⟩:ByteArray)[j.toNat]? = PA b:=by rw [str_get];exact hb
     simp only [execOp,h1,h2,Instr.index,asIntOf,Sem.run_bind,Sem.run_pure,run_underlying hu,Result.andThen,h0,if_true,hg]
    ·cases hs
   ·cases hs
  ·cases hc
 | extract x i =>
  simp only [cop,BA] at hc
  subst hc
  have hx:=hρ x
  simp only [cstep] at hs
  split at hs
  ·rename_i l hev
   rw [hev] at hx
   simp only [AA,MA] at hs
   obtain ⟨v,hv,rfl,rfl⟩:=hs
   generalize hxv:ρ x = u at hx
   cases hx with
   | tup _ vs hl hh =>
    have hlt:=(dA.1 hv).1
    refine GN.quiet H (v:=vs[i]'(by omega)) ?_ (hh i v _ hv (aA _))
    simp [execOp,hxv,Instr.extract,show i < vs.length by omega,Result.andThen]
  ·cases hs
 | call c =>
  obtain ⟨callee,args,argTypes⟩:=c
  cases callee with
  | value f =>
   simp only [cop,BA] at hc
   subst hc
   simp [cstep] at hs
  | invoke r m=>simp [cop] at hc
  | builtin b =>
   cases b
   case len =>
    simp only [cop] at hc
    split at hc
    ·rename_i x t ha ht
     have ea:args = #[x]:=by apply Array.ext';simpa using ha
     have et:argTypes = #[t]:=by apply Array.ext';simpa using ht
     subst ea;subst et
     split at hc
     ·rename_i e hu
      simp only [BA] at hc
      subst hc
      simp only [cstep,AA,MA] at hs
      obtain ⟨n,hn,rfl,rfl⟩:=hs
      rcases lenAV_ok H (hρ x) hn with ⟨_,a,cp,hv⟩ | ⟨h0,_⟩
      ·exact GN.quiet H (v:=goInt n) (by simp [execOp,resolve,invoke,builtin,Builtin.len_,run_underlying hu,hv,Result.andThen]) (YC rfl)
      ·cases h0
     ·rename_i hu
      simp only [BA] at hc
      subst hc
      simp only [cstep,AA,MA] at hs
      obtain ⟨n,hn,rfl,rfl⟩:=hs
      rcases lenAV_ok H (hρ x) hn with ⟨h0,_⟩ | ⟨_,s,hv,hsz⟩
      ·cases h0
      ·exact GN.quiet H (v:=goInt n) (by simp [execOp,resolve,invoke,builtin,Builtin.len_,run_underlying hu,hv,hsz,Result.andThen]) (YC rfl)
     ·cases hc
    ·cases hc
   case append =>
    simp only [cop] at hc
    split at hc
    ·rename_i x y t u ha ht
     have ea:args = #[x,y]:=by apply Array.ext';simpa using ha
     have et:argTypes = #[t,u]:=by apply Array.ext';simpa using ht
     subst ea;subst et
     split at hc
     ·rename_i e e' hu hu'
      split at hc
      ·rename_i i hi
       split at hc
       ·rename_i z hz
        split at hc
        ·rename_i hcond
         simp only [BA] at hc
         subst hc
         have hexec:execOp ρ ⟨dst,.call ⟨.builtin .append,#[x,y],#[t,u]⟩,type,pos,after,guard⟩ = (do pure (Next.value (<- Builtin.append_ #[t,u] type #[ρ x,ρ y]))):=by
          simp only [execOp,resolve,List.map_toArray,List.map_cons,List.map_nil,pure_bind,invoke,builtin]
         rw [hexec]
         have hx:=hρ x
         simp only [cstep,CA] at hs
         obtain ⟨ys,hey,hs⟩:=hs
         split at hs
         ·rename_i b ver hev
          rw [hev] at hx
          cases hk:st.h[b]? with
          | none=>simp [hk] at hs
          | some k =>
           simp only [hk] at hs
           split at hs
           ·rename_i hb
            obtain ⟨hver,hke,hty,hlive,h63,hby⟩:=hb
            simp only [BA,MA] at hs
            obtain ⟨rfl,rfl⟩:=hs
            exact (QR H hM hB hu hu' hi hz hcond.1 hcond.2 hx hk hver hke hty hlive (hρ y) hey h63 hby).next
           ·cases hs
         ·rename_i hev
          rw [hev] at hx
          split at hs
          ·rename_i hb
           simp only [BA,MA] at hs
           obtain ⟨rfl,rfl⟩:=hs
           rw [hx.val]
           exact (TR H hM hB hu hu' hi hz hcond.1 hcond.2 (hρ y) hey hb.1 hb.2).next
          ·cases hs
         ·rename_i e2 l hev
          rw [hev] at hx
          split at hs
          ·rename_i hb
           obtain ⟨rfl,hne,h63,hby⟩:=hb
           simp only [BA,MA] at hs
           obtain ⟨rfl,rfl⟩:=hs
           exact (PR H hM hB hu hu' hi hz hcond.1 hcond.2 hx (hρ y) hey hne h63 hby).next
          ·cases hs
         ·cases hs
        ·cases hc
       ·cases hc
      ·cases hc
     ·cases hc
    ·cases hc
   case copy =>
    simp only [cop] at hc
    split at hc
    ·rename_i x y t u ha ht
     have ea:args = #[x,y]:=by apply Array.ext';simpa using ha
     have et:argTypes = #[t,u]:=by apply Array.ext';simpa using ht
     subst ea;subst et
     split at hc
     ·rename_i e hu
      simp only [CA] at hc
      obtain ⟨s,hsz,hc⟩:=hc
      split at hc
      ·rename_i hs0
       simp only [BA] at hc
       subst hc
       have hexec:execOp ρ ⟨dst,.call ⟨.builtin .copy,#[x,y],#[t,u]⟩,type,pos,after,guard⟩ = (do pure (Next.value (<- Builtin.copy_ #[t,u] type #[ρ x,ρ y]))):=by
        simp only [execOp,resolve,List.map_toArray,List.map_cons,List.map_nil,pure_bind,invoke,builtin]
       rw [hexec]
       have hx:=hρ x
       simp only [cstep,CA] at hs
       obtain ⟨ys,hey,hs⟩:=hs
       split at hs
       ·rename_i b ver hev
        rw [hev] at hx
        cases hk:st.h[b]? with
        | none=>simp [hk] at hs
        | some k =>
         simp only [hk] at hs
         split at hs
         ·rename_i hb
          obtain ⟨hver,hke,hlive⟩:=hb
          simp only [BA,MA] at hs
          obtain ⟨rfl,rfl⟩:=hs
          exact (gv_copy H hM hu hsz hs0 hx hk hver hke hlive (hρ y) hey).next
         ·cases hs
       ·cases hs
      ·cases hc
     ·cases hc
    ·cases hc
   case max =>
    simp only [cop] at hc
    split at hc
    ·rename_i x y ha
     have ea:args = #[x,y]:=by apply Array.ext';simpa using ha
     subst ea
     simp only [BA] at hc
     subst hc
     have hx:=hρ x
     have hy:=hρ y
     simp only [cstep] at hs
     split at hs
     ·rename_i k a k' b hxa hyb
      rw [hxa] at hx;rw [hyb] at hy
      simp only [BA,MA] at hs
      obtain ⟨rfl,rfl⟩:=hs
      refine GN.quiet H (v:=.int k (if b > a then b else a)) ?_ (YC rfl)
      simp [execOp,resolve,invoke,builtin,Builtin.max_,Builtin.max2,hx.val,hy.val,Result.andThen]
     ·cases hs
    ·cases hc
   case min =>
    simp only [cop] at hc
    split at hc
    ·rename_i x y ha
     have ea:args = #[x,y]:=by apply Array.ext';simpa using ha
     subst ea
     simp only [BA] at hc
     subst hc
     have hx:=hρ x
     have hy:=hρ y
     simp only [cstep] at hs
     split at hs
     ·rename_i k a k' b hxa hyb
      rw [hxa] at hx;rw [hyb] at hy
      simp only [BA,MA] at hs
      obtain ⟨rfl,rfl⟩:=hs
      refine GN.quiet H (v:=.int k (if b < a then b else a)) ?_ (YC rfl)
      simp [execOp,resolve,invoke,builtin,Builtin.min_,Builtin.min2,hx.val,hy.val,Result.andThen]
     ·cases hs
    ·cases hc
   all_goals (simp [cop] at hc)
 | _=>simp [cop] at hc
end Go.Am
namespace Go.Am
open Go.RowKit
variable {P:Program} {w w':World} {M0:Nat -> Prop} {h h1 h2 h':List Blk} {hd hd':Nat -> Value} {B0:Nat} {bad bad':Nat -> Prop}
def XB (h:List Blk):Nat -> Cell -> Option CV
 | _,.c x=>PA x
 | _,.slx e l=>PA (.sl e l)
 | _,.fn f []=>PA (.val (.func (.func f) #[] #[]))
 | 0,_=>QA
 | n + 1,.own b ver =>
  match h[b]? with
  | some k=>if ver = k.ver /\ 0 < k.e then
    (if k.nn then (k.els.mapM fun (r:List Cell)=>r.mapM (XB h n)).map (.sl k.e) else PA (.val (.slice QA 0 0))) else QA
  | none=>QA
 | _,_=>QA
def jC (h:List Blk) (n:Nat):Cell -> Option Cell
 | .iptr l=>PA (.iptr l)
 | .slx e l=>PA (.slx e l)
 | .ptr b ver i off =>
  match h[b]? with
  | some k=>if ver = k.ver then (match k.els[i]? with | some r=>((r.drop off).mapM (XB h n)).map .iptr | none=>QA) else QA
  | none=>QA
 | x=>(XB h n x).map .c
def yE (h:List Blk) (n:Nat):Cell -> Option Cell
 | .fn f caps=>(caps.mapM (jC h n)).map (.fn f)
 | x=>jC h n x
def VB (h:List Blk) (n:Nat):AV -> Option AV
 | .one x=>(yE h n x).map .one
 | .agg l=>(l.mapM (jC h n)).map .agg
 | _=>QA
def EC (h:List Blk):Nat -> Cell -> List Nat
 | n + 1,.own b _=>b :: (match h[b]? with | some k=>if k.nn then (k.els.map fun (r:List Cell)=>(r.map (EC h n)).flatten).flatten else [] | none=>[])
 | _,_=>[]
def DC (h:List Blk) (n:Nat):Cell -> List Nat
 | .ptr b _ i off=>b :: (match h[b]? with | some k=>(match k.els[i]? with | some r=>((r.drop off).map (EC h n)).flatten | none=>[]) | none=>[])
 | x=>EC h n x
def fJ (h:List Blk) (n:Nat):Cell -> List Nat
 | .fn _ caps=>(caps.map (DC h n)).flatten
 | x=>DC h n x
def kC (h:List Blk) (n:Nat):AV -> List Nat
 | .one x=>fJ h n x
 | .agg l=>(l.map (DC h n)).flatten
 | _=>[]
def freeze (ids:List Nat) (h:List Blk):List Blk:=h.mapIdx fun i k=>if ids.contains i then { k with live:=TA } else k
theorem BD (ids:List Nat) (h:List Blk) (b:Nat):(freeze ids h)[b]? = (h[b]?).map fun k=>if ids.contains b then { k with live:=TA } else k:=by
 simp [freeze]
theorem AJ (h:List Blk):freeze [] h = h:=by
 apply List.ext_getElem?
 intro i
 rw [BD]
 cases h[i]? <;> simp
theorem lR (ids:List Nat) {g:Nat} (hb:iB M0 (freeze ids h) hd g):iB M0 h hd g:=by
 rcases hb with hm | ⟨b,k,hk,hl,hg⟩
 ·exact .inl hm
 ·rw [BD] at hk
  cases hq:h[b]? with
  | none=>simp [hq] at hk
  | some q =>
   simp only [hq,Option.map_some,BA] at hk
   split at hk
   ·subst hk;cases hl
   ·subst hk;exact .inr ⟨b,q,hq,hl,hg⟩
theorem Tr.freeze (ids:List Nat):Tr w (iB M0 h hd) h hd w (iB M0 (freeze ids h) hd) (freeze ids h) hd :=
 ⟨fun _ _ _=>rfl,fun g hg _ hb=>hg (lR ids hb),EA _,fun b k hk=>by
  rw [BD,hk]
  refine ⟨_,rfl,.inl ?_⟩
  split <;> exact ⟨rfl,rfl,rfl⟩⟩
theorem HR.freeze (H:HR B0 M0 w h hd) (ids:List Nat):HR B0 M0 w (freeze ids h) hd:=by
 have inv:∀ (b:Nat) (k:Blk),(Am.freeze ids h)[b]? = PA k -> ∃ k0,h[b]? = PA k0 /\ k.ver = k0.ver /\ k.ty = k0.ty /\ k.e = k0.e /\ k.els = k0.els /\ k.nn = k0.nn /\ (k.live = SA -> k0.live = SA):=fun b k hk=>by
  rw [BD] at hk
  cases hq:h[b]? with
  | none=>simp [hq] at hk
  | some q =>
   simp only [hq,Option.map_some,BA] at hk
   refine ⟨q,rfl,?_⟩
   split at hk <;> subst hk
   ·exact ⟨rfl,rfl,rfl,rfl,rfl,fun e=>by cases e⟩
   ·exact ⟨rfl,rfl,rfl,rfl,rfl,fun e=>e⟩
 refine ⟨fun b k hk=>?_,fun b k hk=>?_,fun b b' k k' hk hk' hl hne g hg=>?_⟩
 ·obtain ⟨k0,h0,h1,h2,h3,h4,h5,h6⟩:=inv b k hk
  obtain ⟨hr,xs,ho,hv⟩:=H.blk b k0 h0
  rw [h2,h3,h4]
  exact ⟨hr,xs,ho,fun i c u hc hu=>(hv i c u hc hu).tr (Tr.freeze ids)⟩
 ·obtain ⟨k0,h0,h1,h2,h3,h4,h5,h6⟩:=inv b k hk
  rw [h5];exact H.nn b k0 h0
 ·obtain ⟨k0,h0,_,_,_,_,_,h6⟩:=inv b k hk
  obtain ⟨k0',h0',_⟩:=inv b' k' hk'
  exact H.apart b b' k0 k0' h0 h0' (h6 hl) hne g hg
def bE:Nat -> Value:=fun _=>undef
theorem wJ {α β γ:Type} {f:α -> Option β} {R:α -> γ -> Prop} {S:β -> γ -> Prop}:∀ (l:List α) (l':List β) (vs:List γ),l.mapM f = PA l' -> PW R l vs -> (∀ a b c,a ∈ l -> f a = PA b -> R a c -> S b c) -> PW S l' vs
 | [],l',vs,hm,hp,_=>by
  simp only [List.mapM_nil,Option.pure_def,BA] at hm
  subst hm
  have:vs = []:=List.eq_nil_of_length_eq_zero hp.1.symm
  subst this
  exact .nil
 | a :: l,l',vs,hm,hp,hh=>by
  rw [List.mapM_cons] at hm
  simp only [Option.bind_eq_bind,Option.pure_def] at hm
  cases hf:f a with
  | none=>simp [hf] at hm
  | some b =>
   cases hr:l.mapM f with
   | none=>simp [hf,hr] at hm
   | some rs =>
    simp only [hf,hr,Option.bind_some,BA] at hm
    subst hm
    match vs,hp with
    | [],hp=>exact absurd hp.1 (by simp)
    | v :: vs,hp =>
     refine PW.cons (hh a b v (by simp) hf (hp.2 0 a v rfl rfl)) ?_
     exact wJ l rs vs hr ⟨by have:=hp.1;simpa using this,fun i c u hc hu=>hp.2 (i + 1) c u (by simpa using hc) (by simpa using hu)⟩ (fun a b c ha=>hh a b c (by simp [ha]))
theorem CR.of_rows {e:Nat} {l:List (List CV)} {g off cap:Nat} {vs:List Value} (hbad:¬ bad g) (hlt:g < w.heap.size) (hcap:l.length <= cap) (hrow:∀ (i:Nat) (r:List CV),l[i]? = PA r -> r.length = e)
  (hp:PW (CR w bad) l.flatten vs) (hc:∀ (j:Nat) (u:Value),vs[j]? = PA u -> w.cell? ⟨g,off + j,QA⟩ = PA u):CR w bad (.sl e l) (.slice (PA ⟨g,off,QA⟩) l.length cap):=by
 have hlen:l.flatten.length = l.length * e:=vF l hrow
 have idx:∀ i j,i < l.length -> j < e -> i * e + j < vs.length:=fun i j hi hj=>by
  rw [<- hp.1,hlen]
  have:(i + 1) * e <= l.length * e:=Nat.mul_le_mul_right _ (by omega)
  rw [Nat.add_mul] at this
  omega
 refine .sl e l g off cap (fun i j=>vs.getD (i * e + j) undef) hcap hbad hlt hrow (fun i j hi hj=>?_) (fun i j r x hi hj=>?_)
 ·refine hc _ _ ?_
  rw [aA (idx i j hi hj)]
  simp [List.getD,aA (idx i j hi hj)]
 ·have hil:=(dA.1 hi).1
  have hjl:j < e:=by rw [<- hrow i r hi];exact (dA.1 hj).1
  have hf:=DM l i j r hrow hi hjl
  rw [hj] at hf
  refine hp.2 _ x _ hf ?_
  rw [aA (idx i j hil hjl)]
  simp [List.getD,aA (idx i j hil hjl)]
theorem dH {α β:Type} {f:α -> Option β}:∀ (ls:List (List α)) (ls':List (List β)),(ls.mapM fun r=>r.mapM f) = PA ls' -> ls.flatten.mapM f = PA ls'.flatten /\ (ls'.length = ls.length /\ ∀ (i:Nat) (r:List α) (r':List β),ls[i]? = PA r -> ls'[i]? = PA r' -> r'.length = r.length)
 | [],ls',hm=>by
  simp only [List.mapM_nil,Option.pure_def,BA] at hm
  subst hm
  exact ⟨rfl,rfl,fun i r r' hi=>by simp at hi⟩
 | r :: ls,ls',hm=>by
  rw [List.mapM_cons] at hm
  simp only [Option.bind_eq_bind,Option.pure_def] at hm
  cases hr:r.mapM f with
  | none=>simp [hr] at hm
  | some r1 =>
   cases hl:(ls.mapM fun r=>r.mapM f) with
   | none=>simp [hr,hl] at hm
   | some l1 =>
    simp only [hr,hl,Option.bind_some,BA] at hm
    subst hm
    obtain ⟨h1,h2,h3⟩:=dH ls l1 hl
    refine ⟨?_,by simp [h2],fun i q q' hi hi'=>?_⟩
    ·simp only [List.flatten_cons,List.mapM_append,hr,h1,Option.bind_eq_bind,Option.bind_some,Option.pure_def]
    ·cases i with
     | zero=>simp at hi hi';subst hi;subst hi';exact (yQ _ _ hr).1
     | succ i=>exact h3 i q q' (by simpa using hi) (by simpa using hi')
theorem uG (H:HR B0 M0 w h hd) (hM0:∀ g,M0 g -> g < B0) (ids:List Nat):∀ (n:Nat) (x:Cell) (y:CV) (v:Value),XB h n x = PA y -> (∀ b ∈ EC h n x,b ∈ ids) -> VR w (iB M0 h hd) h hd x v -> CR w (iB M0 (freeze ids h) hd) y v:=by
 intro n
 induction n with
 | zero =>
  intro x y v hc hu hx
  cases x with
  | c x =>
   simp only [XB,BA] at hc
   subst hc
   cases hx with | c _ _ hx=>exact hx.tr (Tr.freeze ids (w:=w)).blk (Tr.freeze ids (w:=w)).ok (EA _)
  | slx e l =>
   simp only [XB,BA] at hc
   subst hc
   cases hx with | slx _ _ g off hx=>exact hx.tr (Tr.freeze ids (w:=w)).blk (Tr.freeze ids (w:=w)).ok (EA _)
  | fn f caps =>
   cases caps with
   | nil =>
    simp only [XB,BA] at hc
    subst hc
    cases hx with
    | fn _ _ vs hl hv =>
     obtain rfl:vs = []:=List.eq_nil_of_length_eq_zero hl.symm
     exact .val _ rfl
   | cons c cs=>simp [XB] at hc
  | _=>simp [XB] at hc
 | succ n ih =>
  intro x y v hc hu hx
  cases x with
  | c x =>
   simp only [XB,BA] at hc
   subst hc
   cases hx with | c _ _ hx=>exact hx.tr (Tr.freeze ids (w:=w)).blk (Tr.freeze ids (w:=w)).ok (EA _)
  | slx e l =>
   simp only [XB,BA] at hc
   subst hc
   cases hx with | slx _ _ g off hx=>exact hx.tr (Tr.freeze ids (w:=w)).blk (Tr.freeze ids (w:=w)).ok (EA _)
  | own b ver =>
   simp only [XB] at hc
   cases hk:h[b]? with
   | none=>simp [hk] at hc
   | some k =>
    simp only [hk] at hc
    split at hc
    ·rename_i hver
     have hv:v = hd b:=EL (.one _ _ hx) hk hver.1
     subst hv
     split at hc
     ·rename_i hnn
      simp only [AA] at hc
      obtain ⟨l,hm,rfl⟩:=hc
      obtain ⟨hr,xs,ho,hpw⟩:=H.pw hk
      obtain ⟨hfl,hll,hrl⟩:=dH _ _ hm
      simp only [EC,hk,hnn,if_true,List.mem_cons] at hu
      have hbid:b ∈ ids:=hu b (.inl rfl)
      have hP:PW (CR w (iB M0 (freeze ids h) hd)) l.flatten xs:=wJ _ _ _ hfl hpw (fun a y v ha hay hav=>ih a y v hay (fun c hc=>hu c (.inr (by
       obtain ⟨r,hr1,hr2⟩:=List.mem_flatten.1 ha
       refine List.mem_flatten.2 ⟨_,yA.2 ⟨r,hr1,rfl⟩,List.mem_flatten.2 ⟨_,yA.2 ⟨a,hr2,rfl⟩,hc⟩⟩))) hav)
      have hrow:∀ (i:Nat) (r:List CV),l[i]? = PA r -> r.length = k.e:=fun i r hi=>by
       have hil:i < k.els.length:=by rw [<- hll];exact (dA.1 hi).1
       rw [hrl i _ r (aA hil) hi]
       exact hr i _ (aA hil)
      rcases ho.2 with ⟨h0,_⟩ | ⟨g,cap,cur,hh,hBg,hg,hnc,hcm,hcs,htake⟩
      ·have:=(H.nn b k hk).2 h0
       rw [hnn] at this;cases this
      ·rw [hh,<- hll]
       refine CR.of_rows ?_ (by rw [Array.getElem?_eq_some_iff] at hg;exact hg.1) (by rw [hll];exact hnc) hrow hP (fun j u hj=>?_)
       ·rintro (hm0 | ⟨b',k',hk',hl',hg'⟩)
        ·have:=hM0 g hm0;omega
        ·rw [BD] at hk'
         cases hq:h[b']? with
         | none=>simp [hq] at hk'
         | some q =>
          simp only [hq,Option.map_some,BA] at hk'
          by_cases hin:ids.contains b' = SA
          ·rw [if_pos hin] at hk';subst hk';cases hl'
          ·rw [if_neg hin] at hk'
           subst hk'
           have hne:b' ≠ b:=fun e=>hin (by subst e;simpa using hbid)
           exact H.apart b' b q k hq hk hl' hne g hg' (by rw [hh];rfl)
       ·have:=ho.cells (g:=g) (by rw [hh];rfl) j u hj
        rwa [TC] at this
     ·rename_i hnn
      simp only [BA] at hc
      subst hc
      have:k.nn = TA:=by simpa using hnn
      rw [(H.nn b k hk).1 this]
      exact .val _ rfl
    ·cases hc
  | fn f caps =>
   cases caps with
   | nil =>
    simp only [XB,BA] at hc
    subst hc
    cases hx with
    | fn _ _ vs hl hv =>
     obtain rfl:vs = []:=List.eq_nil_of_length_eq_zero hl.symm
     exact .val _ rfl
   | cons c cs=>simp [XB] at hc
  | _=>simp [XB] at hc
theorem rQ (H:HR B0 M0 w h hd) (hM0:∀ g,M0 g -> g < B0) {ids:List Nat} {b:Nat} {k:Blk} (hk:h[b]? = PA k) (hb:b ∈ ids) {g:Nat} (hg:(hd b).ownBlock = PA g):¬ iB M0 (freeze ids h) hd g:=by
 rintro (hm0 | ⟨b',k',hk',hl',hg'⟩)
 ·have:=hM0 g hm0
  have:=(H.lt hk hg).1
  omega
 ·rw [BD] at hk'
  cases hq:h[b']? with
  | none=>simp [hq] at hk'
  | some q =>
   simp only [hq,Option.map_some,BA] at hk'
   by_cases hin:ids.contains b' = SA
   ·rw [if_pos hin] at hk';subst hk';cases hl'
   ·rw [if_neg hin] at hk'
    subst hk'
    have hne:b' ≠ b:=fun e=>hin (by subst e;simpa using hb)
    exact H.apart b' b q k hq hk hl' hne g hg' hg
theorem GJ (H:HR B0 M0 w h hd) (hM0:∀ g,M0 g -> g < B0) (ids:List Nat) (n:Nat) {x y:Cell} {v:Value} (hc:jC h n x = PA y) (hu:∀ b ∈ DC h n x,b ∈ ids)
  (hx:VR w (iB M0 h hd) h hd x v):VR w (iB M0 (freeze ids h) hd) [] bE y v:=by
 have T:=Tr.freeze (w:=w) (M0:=M0) (h:=h) (hd:=hd) ids
 cases x with
 | iptr l =>
  simp only [jC,BA] at hc
  subst hc
  cases hx with
  | iptr _ g off f hbad hlt hc hv=>exact .iptr l g off f (T.ok g hbad hlt) hlt hc (fun j x hj=>(hv j x hj).tr T.blk T.ok T.size)
 | slx e l =>
  simp only [jC,BA] at hc
  subst hc
  cases hx with
  | slx _ _ g off hx=>exact .slx e l g off (hx.tr T.blk T.ok T.size)
 | ptr b ver i off =>
  simp only [jC] at hc
  cases hk:h[b]? with
  | none=>simp [hk] at hc
  | some k =>
   simp only [hk] at hc
   split at hc
   ·rename_i hver
    cases hi:k.els[i]? with
    | none=>simp [hi] at hc
    | some r =>
     simp only [hi,AA] at hc
     obtain ⟨l,hm,rfl⟩:=hc
     simp only [DC,hk,hi,List.mem_cons] at hu
     have hbid:b ∈ ids:=hu b (.inl rfl)
     rcases QO (.one _ _ hx) with ⟨blk,g,n',cap,hb,hh,rfl,hbv⟩ | ⟨blk,hb,hlt,_⟩
     ·obtain rfl:blk = k:=by rw [hk] at hb;exact (Option.some.inj hb).symm
      have hl:=(H.lies hk hi hh).drop (n:=off)
      obtain ⟨vs,hpw,hcells⟩:=EF.values _ _ hl
      have hP:PW (CR w (iB M0 (freeze ids h) hd)) l vs:=wJ _ _ _ hm hpw (fun a y v ha hay hav=>uG H hM0 ids n a y v hay (fun c hc=>hu c (.inr (List.mem_flatten.2 ⟨_,yA.2 ⟨a,ha,rfl⟩,hc⟩))) hav)
      have hg:=(H.lt hk (g:=g) (by rw [hh];rfl)).2
      refine .iptr l g _ (fun j=>vs.getD j undef) (rQ H hM0 hk hbid (by rw [hh];rfl)) hg (fun j x hj=>?_) (fun j x hj=>?_)
      ·have hlt:j < vs.length:=by rw [<- hP.1];exact (dA.1 hj).1
       refine hcells j _ ?_
       rw [aA hlt]
       simp [List.getD,aA hlt]
      ·have hlt:j < vs.length:=by rw [<- hP.1];exact (dA.1 hj).1
       refine hP.2 j x _ hj ?_
       rw [aA hlt]
       simp [List.getD,aA hlt]
     ·rw [hk] at hb;cases hb;omega
   ·cases hc
 | c x =>
  simp only [jC,AA] at hc
  obtain ⟨z,hz,rfl⟩:=hc
  exact .c _ _ (uG H hM0 ids n _ z v hz (by simpa [DC] using hu) hx)
 | own b ver =>
  simp only [jC,AA] at hc
  obtain ⟨z,hz,rfl⟩:=hc
  exact .c _ _ (uG H hM0 ids n _ z v hz (by simpa [DC] using hu) hx)
 | fn f caps =>
  simp only [jC,AA] at hc
  obtain ⟨z,hz,rfl⟩:=hc
  exact .c _ _ (uG H hM0 ids n _ z v hz (by simpa [DC] using hu) hx)
 | mfn f x =>
  simp only [jC,AA] at hc
  obtain ⟨z,hz,rfl⟩:=hc
  cases n <;> simp [XB] at hz
 | junk =>
  simp only [jC,AA] at hc
  obtain ⟨z,hz,rfl⟩:=hc
  cases n <;> simp [XB] at hz
theorem closeFn_ok (H:HR B0 M0 w h hd) (hM0:∀ g,M0 g -> g < B0) (ids:List Nat) (n:Nat) {x y:Cell} {v:Value} (hc:yE h n x = PA y) (hu:∀ b ∈ fJ h n x,b ∈ ids)
  (hx:VR w (iB M0 h hd) h hd x v):VR w (iB M0 (freeze ids h) hd) [] bE y v:=by
 cases x with
 | fn f caps =>
  simp only [yE,AA] at hc
  obtain ⟨cs,hm,rfl⟩:=hc
  cases hx with
  | fn _ _ vs hl hv =>
   have hp:=wJ (S:=VR w (iB M0 (freeze ids h) hd) [] bE) caps cs vs hm ⟨hl,hv⟩ (fun a y v ha hay hav=>GJ H hM0 ids n hay (fun c hc=>hu c (List.mem_flatten.2 ⟨_,yA.2 ⟨a,ha,rfl⟩,hc⟩)) hav)
   exact .fn f cs vs hp.1 hp.2
 | _=>simp only [yE] at hc;simp only [fJ] at hu;exact GJ H hM0 ids n hc hu hx
theorem LL (H:HR B0 M0 w h hd) (hM0:∀ g,M0 g -> g < B0) (ids:List Nat) (n:Nat) {x y:AV} {v:Value} (hc:VB h n x = PA y) (hu:∀ b ∈ kC h n x,b ∈ ids)
  (hx:AVR w (iB M0 h hd) h hd x v):AVR w (iB M0 (freeze ids h) hd) [] bE y v:=by
 cases x with
 | one x =>
  simp only [VB,AA] at hc
  obtain ⟨z,hz,rfl⟩:=hc
  cases hx with | one _ _ hx=>exact .one _ _ (closeFn_ok H hM0 ids n hz hu hx)
 | agg l =>
  simp only [VB,AA] at hc
  obtain ⟨z,hz,rfl⟩:=hc
  cases hx with
  | agg _ vs hl hv =>
   have hp:=wJ (S:=VR w (iB M0 (freeze ids h) hd) [] bE) l z vs hz ⟨hl,hv⟩ (fun a y v ha hay hav=>GJ H hM0 ids n hay (fun c hc=>hu c (List.mem_flatten.2 ⟨_,yA.2 ⟨a,ha,rfl⟩,hc⟩)) hav)
   exact .agg z vs hp.1 hp.2
 | _=>simp [VB] at hc
end Go.Am
namespace Go.Am
open Go.RowKit
variable {P:Program} {w w':World} {M0:Nat -> Prop} {h h1 h2 h':List Blk} {hd hd':Nat -> Value} {B0:Nat} {bad bad':Nat -> Prop}
class Glb where
 tab:Nat -> Option (List Value)
def GB [Glb] (M:Nat -> Prop) (B0:Nat) (w:World):Prop:=∀ g l,Glb.tab g = PA l -> (g < B0 /\ ¬ M g) /\ ∀ (j:Nat) (v:Value),l[j]? = PA v -> w.cell? ⟨g,j,QA⟩ = PA v
variable {GL:Glb}
theorem GB.mono {M:Nat -> Prop} {B0 B1:Nat} {w:World} (h:GB M B0 w) (hb:B0 <= B1):GB M B1 w:=fun g l hl=>⟨⟨HA (h g l hl).1.1 hb,(h g l hl).1.2⟩,(h g l hl).2⟩
theorem GB.below {M:Nat -> Prop} {B0:Nat} {w w':World} (h:GB M B0 w) (hb:Below B0 w w'):GB M B0 w':=fun g l hl=>⟨(h g l hl).1,fun j v hj=>by
 rw [<- (h g l hl).2 j v hj]
 exact World.cell?_of_block (hb.block g (h g l hl).1.1)⟩
theorem GB.kept {M:Nat -> Prop} {B0:Nat} {w w':World} (h:GB M B0 w) (hb:∀ g,g < B0 -> w'.heap[g]? = w.heap[g]?):GB M B0 w':=fun g l hl=>⟨(h g l hl).1,fun j v hj=>by
 rw [<- (h g l hl).2 j v hj]
 exact World.cell?_of_block (hb g (h g l hl).1.1)⟩
theorem GB.wide {M0:Nat -> Prop} {B0:Nat} {w:World} {h:List Blk} {hd:Nat -> Value} (hG:GB M0 B0 w) (H:HR B0 M0 w h hd) (hB:B0 <= w.heap.size):GB (iB M0 h hd) w.heap.size w:=fun g l hl=>by
 obtain ⟨⟨h1,h2⟩,h3⟩:=hG g l hl
 refine ⟨⟨by omega,?_⟩,h3⟩
 rintro (hm | ⟨b,k,hk,_,hg⟩)
 ·exact h2 hm
 ·have:=(H.lt hk hg).1
  omega
def SH (P:Program) (f:FuncId):Prop:=∀ args w,(callFunc f args).run P w = .ok (.enter f args) w
inductive Ret where
 | ret (av:AV)
 | fresh (ty e:Nat) (l:List (List CV)) (nn:Bool)
def RetR (w w':World) (M:Nat -> Prop):Ret -> Value -> Prop
 | .ret av,v=>AVR w' M [] bE av v
 | .fresh ty e l nn,v=>(∀ (i:Nat) (r:List CV),l[i]? = PA r -> r.length = e) /\ (nn = TA ↔ v = .slice QA 0 0) /\
   ∃ xs:List Value,w'.ownsRow w.heap.size ty e v l.length xs /\ PW (CR w' (fun g=>M g \/ v.ownBlock = PA g)) l.flatten xs
def YA [Glb] (P:Program) (f:FuncId) (args:List AV) (r:Ret):Prop :=
 SH P f /\ ∀ (w:World) (M:Nat -> Prop) (vals:List Value),((∀ g,M g -> g < w.heap.size) /\ GB M w.heap.size w) -> PW (AVR w M [] bE) args vals ->
  Calls P f vals.toArray w fun e w'=>∃ v,e = .returned v /\ Below w.heap.size w w' /\ RetR w w' M r v
def DE [Glb] (P:Program) (f:FuncId) (args:List AV) (h:List Blk) (r:AV) (h':List Blk):Prop :=
 SH P f /\ ∀ (B0:Nat) (M0:Nat -> Prop) (w:World) (hd:Nat -> Value) (vals:List Value),HR B0 M0 w h hd -> (∀ g,M0 g -> g < B0) -> (B0 <= w.heap.size /\ GB M0 B0 w) -> PW (AVR w (iB M0 h hd) h hd) args vals ->
  Calls P f vals.toArray w fun e w'=>∃ v hd',e = .returned v /\ Below B0 w w' /\ HR B0 M0 w' h' hd' /\ Tr w (iB M0 h hd) h hd w' (iB M0 h' hd') h' hd' /\ AVR w' (iB M0 h' hd') h' hd' r v
theorem VR.lift (hx:∀ {x:Cell} {v:Value},VR w bad [] bE x v -> True) {x:Cell} {v:Value} (h0:VR w bad [] bE x v) (h:List Blk) (hd:Nat -> Value):VR w bad h hd x v:=by
 induction h0 with
 | c x v hx=>exact .c x v hx
 | own b blk hb h1=>simp at hb
 | ownStale b ver blk v hb hv h1=>simp at hb
 | ptr b i off blk g n cap hb hh=>simp at hb
 | ptrStale b ver i off blk v hb hv h1=>simp at hb
 | iptr l g off f hbad hlt hc hv=>exact .iptr l g off f hbad hlt hc hv
 | fn f caps vs hl hv ih=>exact .fn f caps vs hl ih
 | mfn f c v hv ih=>exact .mfn f c v ih
 | slx e l g off hx=>exact .slx e l g off hx
 | junk v h1=>exact .junk v h1
theorem AVR.lift {x:AV} {v:Value} (h0:AVR w bad [] bE x v) (h:List Blk) (hd:Nat -> Value):AVR w bad h hd x v:=by
 induction h0 with
 | one x v hx=>exact .one x v (hx.lift (fun _=>trivial) h hd)
 | agg l vs hl hv=>exact .agg l vs hl (fun i c v h1 h2=>(hv i c v h1 h2).lift (fun _=>trivial) h hd)
 | tup l vs hl hv ih=>exact .tup l vs hl ih
 | junk v=>exact .junk v
def flatCV:CV -> Bool
 | .sl _ _=>TA
 | _=>SA
def LQ:Cell -> Bool
 | .c x=>flatCV x
 | _=>TA
def flat1:AV -> Bool
 | .one x=>LQ x
 | .agg l=>l.all LQ
 | _=>TA
def LE:AV -> Bool
 | .tup l=>l.all flat1
 | x=>flat1 x
theorem CR.flat {x:CV} {v:Value} (hf:flatCV x = SA) (hx:CR w bad x v):CR w' bad' x v:=by
 cases hx with
 | val v h=>exact .val v h
 | str s=>exact .str s
 | sl=>cases hf
 | emp=>cases hf
theorem VR.flat {x:Cell} {v:Value} (hf:LQ x = SA) (hx:VR w bad h hd x v):VR w' bad' h' hd' x v:=by
 cases hx with
 | c x v hx=>exact .c x v (hx.flat hf)
 | _=>cases hf
theorem AVR.flat1 {x:AV} {v:Value} (hf:Am.flat1 x = SA) (hx:AVR w bad h hd x v):AVR w' bad' h' hd' x v:=by
 cases hx with
 | one x v hx=>exact .one x v (hx.flat hf)
 | agg l vs hl hv =>
  refine .agg l vs hl (fun i c v h1 h2=>(hv i c v h1 h2).flat ?_)
  simp only [Am.flat1,List.all_eq_true] at hf
  exact hf c (List.mem_of_getElem? h1)
 | _=>cases hf
theorem AVR.flat {x:AV} {v:Value} (hf:LE x = SA) (hx:AVR w bad h hd x v):AVR w' bad' h' hd' x v:=by
 cases hx with
 | tup l vs hl hv =>
  refine .tup l vs hl (fun i c v h1 h2=>(hv i c v h1 h2).flat1 ?_)
  simp only [LE,List.all_eq_true] at hf
  exact hf c (List.mem_of_getElem? h1)
 | one x v hx=>exact AVR.flat1 (x:=.one x) hf (.one x v hx)
 | agg l vs hl hv=>exact AVR.flat1 (x:=.agg l) hf (.agg l vs hl hv)
 | junk v=>cases hf
structure Ctx [Glb] where
 B0:Nat
 w0:World
 M0:Nat -> Prop
 hM0:∀ g,M0 g -> g < B0
 hB0:B0 <= w0.heap.size
 h0:List Blk
 hd0:Nat -> Value
 keep:Nat -> Obj -> Prop
 hkeep:∀ k o,keep k o -> o.isCells = TA
 rd:Option Nat
 hrd:∀ l,rd = PA l -> ∃ r,keep l (.loop r)
 lo:Nat
 hG:GB M0 B0 w0
def markOf (D:Nat):Deferred:={ target:=.collected D,args:=#[] }
def VC (t:List AV) (dst:Option Tmp) (v:AV):List AV:=match dst with | some d=>t.set d v | none=>t
structure Rel (X:Ctx) (st:St) (hd:Nat -> Value) (a:Act) (w:World):Prop where
 below:Below X.B0 X.w0 w
 slots:PW (AVR w (iB X.M0 st.h hd) st.h hd) st.t a.tmps.toList
 heap:HR X.B0 X.M0 w st.h hd
 tr:Tr X.w0 (iB X.M0 X.h0 X.hd0) X.h0 X.hd0 w (iB X.M0 st.h hd) st.h hd
 keeps:∀ k o,X.keep k o -> w.heap[k]? = PA o
 big:X.lo <= w.heap.size
 marks:∃ Ds:List Nat,a.defers = Ds.map markOf /\ Ds.Nodup /\ ∀ D ∈ Ds,X.w0.heap.size <= D /\ w.heap[D]? = PA (.deferred (PA []))
variable {X:Ctx} {st:St} {a:Act}
theorem Rel.B0_le (r:Rel X st hd a w):X.B0 <= w.heap.size:=GA X.hB0 r.below.size
theorem Rel.gb (r:Rel X st hd a w):GB X.M0 X.B0 w:=X.hG.below r.below
def BW (X:Ctx) (w:World):Prop:=X.B0 <= w.heap.size /\ GB X.M0 X.B0 w
theorem Rel.bw (r:Rel X st hd a w):BW X w:=⟨r.B0_le,r.gb⟩
theorem Rel.gbad (r:Rel X st hd a w):GB (iB X.M0 st.h hd) w.heap.size w:=r.gb.wide r.heap r.B0_le
theorem Rel.M0_lt (r:Rel X st hd a w):∀ g,X.M0 g -> g < w.heap.size:=fun g hg=>by have:=X.hM0 g hg;have:=r.B0_le;omega
theorem Rel.sees (r:Rel X st hd a w):Sees w (iB X.M0 st.h hd) st hd a.eval:=fun x=>by
 cases x with
 | tmp t =>
  show AVR _ _ _ _ (st.t.getD t .junk) (a.tmps.getD t undef)
  cases hi:st.t[t]? with
  | none=>rw [List.getD,hi];exact .junk _
  | some av =>
   have hlt:t < a.tmps.toList.length:=by rw [<- r.slots.1];exact (dA.1 hi).1
   have:=r.slots.2 t av _ hi (aA hlt)
   simp only [Array.length_toList] at hlt
   have e:a.tmps.getD t undef = a.tmps.toList[t]:=by simp [Array.getD,hlt]
   rw [List.getD,hi,e]
   exact this
 | const v=>exact constAV_ok v
 | global g=>exact .junk _
 | func f=>exact .one _ _ (.fn f [] [] rfl (fun i c v h=>by simp at h))
theorem PW.set {α β:Type} {R:α -> β -> Prop} {l:List α} {vs:List β} (hp:PW R l vs) (d:Nat) {x:α} {v:β} (h:R x v):PW R (l.set d x) (vs.set d v) :=
 ⟨by simp [hp.1],fun i c u hc hu=>by
  rw [List.getElem?_set] at hc hu
  by_cases e:d = i
  ·subst e
   by_cases hlt:d < l.length
   ·rw [if_pos rfl,if_pos hlt] at hc
    rw [if_pos rfl,if_pos (by rw [<- hp.1];exact hlt)] at hu
    cases hc;cases hu;exact h
   ·rw [if_pos rfl,if_neg hlt] at hc;cases hc
  ·rw [if_neg e] at hc hu
   exact hp.2 i c u hc hu⟩
theorem QJ (H:HR B0 M0 w h hd) {b:Nat} {k:Blk} (hk:h[b]? = PA k) {g:Nat} (hg:(hd b).ownBlock = PA g):∃ cs t,w.heap[g]? = PA (.cells cs t (0,0)):=by
 obtain ⟨_,xs,ho,_⟩:=H.blk b k hk
 rcases ho.2 with ⟨h0,_⟩ | ⟨g',cap,cur,hh,_,hc,_⟩
 ·rw [h0] at hg;simp [Value.ownBlock] at hg
 ·rw [hh] at hg;simp [Value.ownBlock] at hg;subst hg;exact ⟨cur,k.ty,hc⟩
theorem Rel.step (r:Rel X st hd a w) {row:Option Nat} {h':List Blk} {hd':Nat -> Value} {dst:Option Tmp} {av:AV} {v:Value}
  (hg:w.grownBy w' row) (hr:nT st.h hd row) (H':HR X.B0 X.M0 w' h' hd') (T:Tr w (iB X.M0 st.h hd) st.h hd w' (iB X.M0 h' hd') h' hd') (hv:AVR w' (iB X.M0 h' hd') h' hd' av v) :
  Rel X ⟨VC st.t dst av,h'⟩ hd' (a.put dst v) w':=by
 have hbelow:Below X.B0 X.w0 w':=r.below.grown hg r.B0_le (fun k e=>by
  obtain ⟨b,kb,hk,_,ho⟩:=hr k e
  exact (r.heap.lt hk ho).1)
 have other:∀ (i:Nat) (o:Obj),w.heap[i]? = PA o -> o.isCells = TA -> w'.heap[i]? = PA o:=fun i o hi ho=>by
  rw [hg.block i (by rw [Array.getElem?_eq_some_iff] at hi;exact hi.1) (fun e=>by
   obtain ⟨b,kb,hk,_,hb⟩:=hr i e.symm
   obtain ⟨cs,t,hc⟩:=QJ r.heap hk hb
   rw [hi] at hc
   cases hc;cases ho)]
  exact hi
 refine ⟨hbelow,?_,H',r.tr.trans T,fun k o hp=>other k o (r.keeps k o hp) (X.hkeep k o hp),GA r.big hg.size,?_⟩
 ·have hs:PW (AVR w' (iB X.M0 h' hd') h' hd') st.t a.tmps.toList:=r.slots.mono (fun c v hc=>hc.tr T)
  cases dst with
  | none=>exact hs
  | some d =>
   show PW _ (st.t.set d av) (a.tmps.setIfInBounds d v).toList
   rw [Array.toList_setIfInBounds]
   exact hs.set d hv
 ·obtain ⟨Ds,hD,hN,hDs⟩:=r.marks
  refine ⟨Ds,?_,hN,fun D hd=>⟨(hDs D hd).1,other D _ (hDs D hd).2 rfl⟩⟩
  cases dst <;> exact hD
structure CO where
 dst:Option Tmp
 guard:Option (Tmp × Bool)
 op:COp
def tD (st:St) (t:Tmp) (want:Bool):Option Bool :=
 match st.t[t]? with
 | some (.one (.c (.val (.bool b))))=>PA (b == want)
 | some (.tup [])=>PA TA
 | _=>QA
def fnVal:Value -> Option FuncId
 | .func (.func g) first caps=>if first = #[] /\ caps = #[] then PA g else QA
 | _=>QA
theorem fnVal_is {v:Value} {g:FuncId} (h:fnVal v = PA g):v = .func (.func g) #[] #[]:=by
 cases v with
 | func f first caps =>
  cases f with
  | func g' =>
   simp only [fnVal] at h
   split at h
   ·rename_i e
    rw [e.1,e.2]
    cases h
    rfl
   ·cases h
  | _=>cases h
 | _=>cases h
def sC (st:St) (f:Operand) (args:List Operand):Option (FuncId × List AV) :=
 match st.ev f with
 | .one (.fn g caps)=>PA (g,oE st args ++ caps.map .one)
 | .one (.mfn g c)=>PA (g,.one c :: oE st args)
 | .one (.c (.val v))=>(fnVal v).map fun g=>(g,oE st args)
 | _=>QA
def rM (st:St) (dst:Option Tmp) (ids:List Nat):Ret -> St
 | .ret av=>if LE av then ⟨VC st.t dst av,st.h⟩ else ⟨VC st.t dst av,freeze ids st.h⟩
 | .fresh ty e l nn=>⟨VC st.t dst (.one (.own st.h.length 0)),freeze ids st.h ++ [⟨0,ty,e,l.map (·.map .c),SA,nn⟩]⟩
def CallS [Glb] (P:Program) (st:St) (dst:Option Tmp) (g:FuncId) (as:List AV) (st':St):Prop :=
 (∃ cas r,as.mapM (VB st.h 3) = PA cas /\ YA P g cas r /\ st' = rM st dst (as.map (kC st.h 3)).flatten r) \/
 (∃ r h',DE P g as st.h r h' /\ st' = ⟨VC st.t dst r,h'⟩)
def OpS [Glb] (P:Program) (st:St) (dst:Option Tmp):COp -> St -> Prop
 | .callf f args,st'=>∃ g as,sC st f args = PA (g,as) /\ CallS P st dst g as st'
 | op,st'=>∃ av h',cstep st op = PA (av,h') /\ st' = ⟨VC st.t dst av,h'⟩
def YI (P:Program) (ops:Array Oper) (o:Oper) (co:CO):Prop :=
 co.dst = o.dst /\ cop P o = PA co.op /\ (match o.guard with
  | none=>co.guard = QA
  | some (j,want)=>∃ t,(ops[j]?).bind (·.dst) = PA t /\ co.guard = PA (t,want))
def Wd (r:Option Nat):Fence:={ Fence.wide with round:=r }
theorem callsIn_wd {r:Option Nat} {n:Nat} {f:FuncId} {args:Array Value} {R:Ending -> World -> Prop} (hc:Calls P f args w R):CallsIn (Wd r) n P f args w R:=by
 have h0:CallsIn Fence.wide n P f args w R:=callsIn_wide.2 hc
 cases r with
 | none=>exact h0
 | some l=>exact CallsIn.inRound l h0
theorem IM {o:Oper} {c:COp} (hc:cop P o = PA c):∀ d,o.op ≠ .defer d:=fun d e=>by
 simp [cop,e] at hc
theorem below_grown (hb:Below w.heap.size w w'):w.grownBy w' QA:=⟨hb.os,hb.tape,hb.output,hb.size,fun k hk _=>hb.block k hk⟩
end Go.Am
namespace Go.Am
open Go.RowKit
variable {GL:Glb}
variable {P:Program} {w w':World} {M0:Nat -> Prop} {h h1 h2 h':List Blk} {hd hd':Nat -> Value} {B0:Nat} {bad bad':Nat -> Prop} {X:Ctx} {st st':St} {a:Act}
theorem zQ {h:List Blk} {n:Nat} (H:HR B0 M0 w h hd) (hM0:∀ g,M0 g -> g < B0) {as cas:List AV} {vals:List Value} (hm:as.mapM (VB h n) = PA cas) (hp:PW (AVR w (iB M0 h hd) h hd) as vals) (ids:List Nat)
  (hu:∀ b ∈ (as.map (kC h n)).flatten,b ∈ ids):PW (AVR w (iB M0 (freeze ids h) hd) [] bE) cas vals :=
 wJ as cas vals hm hp (fun a y v ha hay hav=>LL H hM0 ids n hay (fun b hb=>hu b (List.mem_flatten.2 ⟨_,yA.2 ⟨a,ha,rfl⟩,hb⟩)) hav)
theorem call_ok (r:Rel X st hd a w) {dst:Option Tmp} {g:FuncId} {as:List AV} {vals:List Value} (hp:PW (AVR w (iB X.M0 st.h hd) st.h hd) as vals) (hc:CallS P st dst g as st') :
  SH P g /\ Calls P g vals.toArray w fun e w'=>∃ v hd',e = .returned v /\ Rel X st' hd' (a.put dst v) w':=by
 rcases hc with ⟨cas,ret,hm,⟨hcall,hpure⟩,rfl⟩ | ⟨ret,h',⟨hcall,hopen⟩,rfl⟩
 ·obtain ⟨ids,hids⟩:∃ ids,ids = (as.map (kC st.h 3)).flatten:=⟨_,rfl⟩
  rw [<- hids]
  have hcl:=zQ r.heap X.hM0 hm hp ids (fun b hb=>by rw [hids];exact hb)
  have hbadlt:∀ g,iB X.M0 (freeze ids st.h) hd g -> g < w.heap.size:=fun g hg=>by
   rcases lR ids hg with hm | ⟨b,k,hk,_,hb⟩
   ·exact r.M0_lt g hm
   ·exact (r.heap.lt hk hb).2
  refine ⟨hcall,(hpure w _ vals ⟨hbadlt,r.gb.wide (r.heap.freeze ids) r.B0_le⟩ hcl).mono ?_⟩
  rintro e w' ⟨v,rfl,hbel,hret⟩
  have hg:=below_grown hbel
  cases ret with
  | ret av =>
   simp only [rM]
   by_cases hf:LE av = SA
   ·rw [if_pos hf]
    obtain ⟨H',T⟩:=r.heap.same hg
    exact ⟨v,hd,rfl,r.step hg lD H' T (AVR.flat hf hret)⟩
   ·rw [if_neg hf]
    have H1:=r.heap.freeze ids
    obtain ⟨H',T⟩:=H1.same hg
    exact ⟨v,hd,rfl,r.step hg lD H' ((Tr.freeze ids).trans T) (AVR.lift hret _ _)⟩
  | fresh ty e l nn =>
   simp only [rM]
   obtain ⟨hrow,hnn,xs,hown,hpw⟩:=hret
   have H1:=r.heap.freeze ids
   have hlenf:(freeze ids st.h).length = st.h.length:=by simp [freeze]
   have hB:=r.B0_le
   have hrowm:∀ (i:Nat) (q:List Cell),(l.map (·.map Cell.c))[i]? = PA q -> q.length = e:=fun i q hi=>by
    rw [List.getElem?_map] at hi
    cases hl:l[i]? with
    | none=>simp [hl] at hi
    | some q'=>simp [hl] at hi;subst hi;simpa using hrow i q' hl
   have hflat:(l.map (·.map Cell.c)).flatten = l.flatten.map Cell.c:=by rw [List.map_flatten]
   have hown':w'.ownsRow X.B0 ty e v (l.map (·.map Cell.c)).length xs:=by
    rw [eA]
    refine ⟨hown.1,?_⟩
    rcases hown.2 with h0 | ⟨g,cap,cur,hv,hge,rest⟩
    ·exact .inl h0
    ·exact .inr ⟨g,cap,cur,hv,by omega,rest⟩
   have hfr:∀ g,v.ownBlock = PA g -> w.heap.size <= g:=fun g hg=>(hown.lt g hg).1
   have key:=H1.new2 hg (k:=⟨0,ty,e,l.map (·.map .c),SA,nn⟩) (v:=v) (xs:=xs) hrowm hown' (fun i c u hc hu T=>by
    rw [hflat,List.getElem?_map] at hc
    cases hl:l.flatten[i]? with
    | none=>simp [hl] at hc
    | some x =>
     simp [hl] at hc
     subst hc
     refine .c _ _ ((hpw.2 i x u hl hu).tr (fun _ _ _=>rfl) (fun g hng hlt hbad=>hng ?_) (EA _))
     rcases hbad with hm0 | ⟨b,kb,hkb,hlv,hgb⟩
     ·exact .inl (.inl hm0)
     ·by_cases hbl:b < (freeze ids st.h).length
      ·rw [List.getElem?_append_left hbl] at hkb
       rw [cD hd v (by omega)] at hgb
       exact .inl (.inr ⟨b,kb,hkb,hlv,hgb⟩)
      ·rw [List.getElem?_append_right (by omega)] at hkb
       have hb0:b = (freeze ids st.h).length:=by
        rcases Nat.eq_zero_or_pos (b - (freeze ids st.h).length) with e | e
        ·omega
        ·rw [List.getElem?_eq_none (by simp;omega)] at hkb;cases hkb
       rw [hb0,SC] at hgb
       exact .inr hgb) hfr (fun g hm=>r.M0_lt g hm) hnn
   refine ⟨v,_,rfl,r.step hg lD key.1 ((Tr.freeze ids).trans key.2) (.one _ _ ?_)⟩
   have:=VR.own (w:=w') (bad:=iB X.M0 (freeze ids st.h ++ [⟨0,ty,e,l.map (·.map .c),SA,nn⟩]) (upd hd (freeze ids st.h).length v)) (h:=freeze ids st.h ++ [⟨0,ty,e,l.map (·.map .c),SA,nn⟩])
    (hd:=upd hd (freeze ids st.h).length v) st.h.length ⟨0,ty,e,l.map (·.map .c),SA,nn⟩ (by rw [<- hlenf];simp) (by rw [<- hlenf,SC];exact DG hown)
   rw [<- hlenf,SC] at this
   rw [<- hlenf]
   exact this
 ·refine ⟨hcall,(hopen X.B0 X.M0 w hd vals r.heap X.hM0 r.bw hp).mono ?_⟩
  rintro e w' ⟨v,hd',rfl,hbel,H',T,hv⟩
  refine ⟨v,hd',rfl,?_⟩
  have other:∀ (i:Nat) (o:Obj),w.heap[i]? = PA o -> o.isCells = TA -> w'.heap[i]? = PA o:=fun i o hi ho=>by
   have hilt:i < w.heap.size:=by rw [Array.getElem?_eq_some_iff] at hi;exact hi.1
   by_cases hlt:i < X.B0
   ·rw [hbel.block i hlt];exact hi
   ·rw [T.blk i (fun hb=>by
     rcases hb with hm | ⟨b,k,hk,_,hg⟩
     ·have:=X.hM0 i hm;omega
     ·obtain ⟨cs,t,hc⟩:=QJ r.heap hk hg
      rw [hi] at hc
      cases hc;cases ho) hilt]
    exact hi
  refine ⟨r.below.trans hbel,?_,H',r.tr.trans T,fun k o hp=>other k o (r.keeps k o hp) (X.hkeep k o hp),GA r.big T.size,?_⟩
  ·have hs:PW (AVR w' (iB X.M0 h' hd') h' hd') st.t a.tmps.toList:=r.slots.mono (fun c v hc=>hc.tr T)
   cases dst with
   | none=>exact hs
   | some d =>
    show PW _ (st.t.set d ret) (a.tmps.setIfInBounds d v).toList
    rw [Array.toList_setIfInBounds]
    exact hs.set d hv
  ·obtain ⟨Ds,hD,hN,hDs⟩:=r.marks
   refine ⟨Ds,?_,hN,fun D hd=>⟨(hDs D hd).1,other D _ (hDs D hd).2 rfl⟩⟩
   cases dst <;> exact hD
theorem evs_pw {ρ:Operand -> Value} (hρ:Sees w bad st hd ρ):∀ (xs:List Operand),PW (AVR w bad st.h hd) (oE st xs) (xs.map ρ)
 | []=>.nil
 | x :: xs=>PW.cons (hρ x) (evs_pw hρ xs)
theorem cop_callf {o:Oper} {f:Operand} {args:List Operand} (hc:cop P o = PA (.callf f args)):∃ cc:Call,o.op = .call cc /\ cc.callee = .value f /\ cc.args.toList = args:=by
 obtain ⟨dst,op,type,pos,after,guard⟩:=o
 cases op with
 | call cc =>
  obtain ⟨callee,cargs,ct⟩:=cc
  cases callee with
  | value f' =>
   simp only [cop,BA,COp.callf.injEq] at hc
   obtain ⟨rfl,rfl⟩:=hc
   exact ⟨_,rfl,rfl,rfl⟩
  | invoke r m=>simp [cop] at hc
  | builtin b =>
   exfalso
   cases b <;> simp only [cop,reduceCtorEq] at hc <;> (repeat' split at hc) <;> simp [CA,AA] at hc
 | makeFunc fn first caps =>
  exfalso
  cases fn <;> simp only [cop,reduceCtorEq] at hc
  repeat' split at hc
  all_goals simp at hc
 | field s x i =>
  exfalso
  simp only [cop] at hc
  split at hc
  ·simp only [CA] at hc
   obtain ⟨fd,_,hc⟩:=hc
   repeat' split at hc
   all_goals simp at hc
  ·cases hc
 | binOp op t x y yt =>
  exfalso
  cases op <;> simp only [cop,JM,BA,reduceCtorEq] at hc <;> (repeat' split at hc) <;> simp at hc
 | _ =>
  exfalso
  simp only [cop,reduceCtorEq,BA] at hc <;> (repeat' split at hc) <;> simp [CA,AA] at hc
theorem ES (r:Rel X st hd a w) {o:Oper} {c:COp} {rd:Option Nat} {n:Nat} {Q:Exit -> Act -> World -> Prop} {K:Act -> World -> Prop} (hc:cop P o = PA c) (hs:OpS P st o.dst c st')
  (hK:∀ hd' a' w',Rel X st' hd' a' w' -> K a' w'):o.wpIn (Wd rd) n P a w K Q:=by
 refine ⟨fun f _=>trivial,?_⟩
 have hsem:o.semAt (Wd rd).round a.eval = execOp a.eval o:=Oper.semAt_eq _ _ _ (IM hc)
 rw [hsem]
 have simple:(∃ av h',cstep st c = PA (av,h') /\ st' = ⟨VC st.t o.dst av,h'⟩) -> o.uponIn (Wd rd) n P a K Q ((execOp a.eval o).run P w):=by
  rintro ⟨av,h',hst,rfl⟩
  obtain ⟨nx,w',hd',row,hrun,hg,hro,H',T,hv⟩:=cstep_ok r.heap r.M0_lt r.B0_le r.sees hc hst
  rw [hrun]
  rcases hv with ⟨v,rfl,hav⟩ | ⟨rfl,hdst⟩
  ·exact hK hd' _ _ (r.step hg hro H' T hav)
  ·have hj:=r.step (dst:=QA) (av:=av) (v:=undef) hg hro H' T
   show K (a.put o.dst undef) w'
   refine hK hd' _ _ ?_
   have hj':=r.step (dst:=QA) (av:=.junk) (v:=undef) hg hro H' T (.junk _)
   rw [hdst]
   exact hj'
 cases c with
 | callf f args =>
  simp only [OpS] at hs
  obtain ⟨g,as,hca,hcs⟩:=hs
  have hfn:∃ (bs caps:List Cell) (us vs:List Value),a.eval f = .func (.func g) us.toArray vs.toArray /\ PW (AVR w (iB X.M0 st.h hd) st.h hd) (bs.map AV.one) us /\ PW (AVR w (iB X.M0 st.h hd) st.h hd) (caps.map AV.one) vs /\ as = bs.map AV.one ++ (oE st args ++ caps.map AV.one):=by
   have hf:=r.sees f
   unfold sC at hca
   split at hca
   ·rename_i g' caps hev
    simp only [BA,MA] at hca
    obtain ⟨rfl,rfl⟩:=hca
    rw [hev] at hf
    generalize hfv:a.eval f = u at hf
    cases hf with
    | one _ _ hx =>
     cases hx with
     | fn _ _ vs hl hv =>
      exact ⟨[],caps,[],vs,rfl,⟨rfl,fun i c u hc _=>by simp at hc⟩,⟨by simpa using hl,fun i c u hc hu=>by
       rw [List.getElem?_map] at hc
       cases hq:caps[i]? with
       | none=>simp [hq] at hc
       | some q=>simp [hq] at hc;subst hc;exact .one _ _ (hv i q u hq hu)⟩,rfl⟩
   ·rename_i g' c hev
    simp only [BA,MA] at hca
    obtain ⟨rfl,rfl⟩:=hca
    rw [hev] at hf
    generalize hfv:a.eval f = u at hf
    cases hf with
    | one _ _ hx =>
     cases hx with
     | mfn _ _ v hv=>exact ⟨[c],[],[v],[],rfl,PW.cons (.one _ _ hv) ⟨rfl,fun i c u hc _=>by simp at hc⟩,⟨rfl,fun i c u hc _=>by simp at hc⟩,by simp⟩
   ·rename_i v hev
    simp only [AA,MA] at hca
    obtain ⟨g',hg',rfl,rfl⟩:=hca
    rw [hev] at hf
    have hv:=hf.val
    rw [fnVal_is hg'] at hv
    exact ⟨[],[],[],[],hv,⟨rfl,fun i c u hc _=>by simp at hc⟩,⟨rfl,fun i c u hc _=>by simp at hc⟩,by simp⟩
   ·cases hca
  obtain ⟨bs,caps,us,vs,hfv,hbs,hcaps,rfl⟩:=hfn
  have hargs:=evs_pw (ρ:=a.eval) r.sees args
  obtain ⟨hcall,hC⟩:=call_ok r (hbs.append (hargs.append hcaps)) hcs
  obtain ⟨dst,op,type,pos,after,guard⟩:=o
  have hop:=cop_callf hc
  simp only at hop
  obtain ⟨cc,rfl,hcal,hcargs⟩:=hop
  have hrun:(execOp a.eval ⟨dst,.call cc,type,pos,after,guard⟩).run P w = .ok (.enter g (us ++ (args.map a.eval ++ vs)).toArray) w:=by
   obtain ⟨callee,cargs,ct⟩:=cc
   simp only at hcal hcargs
   subst hcal
   have ea:cargs.map a.eval = (args.map a.eval).toArray:=by apply Array.ext';simp [hcargs]
   simp only [execOp,resolve,hfv,Deferred.ofValue,pure_bind,invoke,ea]
   have:=hcall (us.toArray ++ (args.map a.eval).toArray ++ vs.toArray) w
   simpa using this
  rw [hrun]
  refine ⟨fun h=>by simp [Wd,Fence.wide] at h,callsIn_wd (hC.mono ?_)⟩
  rintro e w' ⟨v,hd',rfl,hr⟩
  exact hK hd' _ _ hr
 | _=>exact simple hs
end Go.Am
namespace Go.Am
open Go.RowKit
variable {GL:Glb}
variable {P:Program} {w w':World} {M0:Nat -> Prop} {h h0 h1 h2 h':List Blk} {hd hd':Nat -> Value} {B0:Nat} {bad bad':Nat -> Prop} {X:Ctx} {st st':St} {a:Act}
inductive Cls where
 | pure | read | alloc | app | write | fill | quiet
 deriving DecidableEq
def HE (opn:List FuncId):COp -> Cls
 | .mv _ | .pick .. | .build .. | .bin .. | .beq .. | .aggeq .. | .un .. | .conv .. | .mkfn .. | .mkmeth .. | .field .. | .sidx .. | .ext .. | .mm .. | .sslice .. | .cutc .. | .mkrowc .. | .makec .. | .loadc .. | .faddrc ..=>.pure
 | .isnil .. | .load .. | .bstr .. | .faddr .. | .iaddr .. | .len ..=>.read
 | .new .. | .box .. | .mkrow .. | .make ..=>.alloc
 | .callf (.func g) _=>if opn.contains g then .write else if opn.contains (g + 1000000) then .quiet else .alloc
 | .callf (.tmp _) _=>if opn.contains 2000000 then .write else .alloc
 | .callf ..=>.alloc
 | .append _ e _ _ _=>if e = 0 then .write else .app
 | .fill ..=>.fill
 | _=>.write
def gC:COp -> List Operand
 | .loadc _ _ x | .faddrc _ x=>[x]
 | .mv x | .box _ x | .load _ _ x | .isnil _ _ x | .un _ x | .conv _ x | .bstr x | .faddr _ x | .field _ _ _ x | .ext x _ | .len _ x=>[x]
 | .pick c a b=>[c,a,b]
 | .new ..=>[]
 | .build _ ps=>ps.map (·.2.2)
 | .mkrow _ _ ps=>ps
 | .store _ x y | .bin _ x y | .beq _ x y | .aggeq _ _ x y | .iaddr _ _ x y | .sidx x y | .append _ _ _ x y | .copy _ x y | .mm _ x y=>[x,y]
 | .mkfn _ cs=>cs
 | .mkmeth _ x=>[x]
 | .make _ _ _ _ l c=>[l,c]
 | .slice _ x lo hi mx=>x :: (lo.toList ++ hi.toList ++ mx.toList)
 | .sslice x lo hi=>x :: (lo.toList ++ hi.toList)
 | .callf f as=>f :: as
 | .cutc _ x lo hi mx=>x :: (lo.toList ++ hi.toList ++ mx.toList)
 | .mkrowc _ ps=>ps
 | .makec _ _ _ l c=>[l,c]
 | .fill ..=>[]
theorem BM {α γ:Type} {f g:γ -> α -> Option γ}:∀ (l:List α) (c:γ),(∀ a ∈ l,∀ c,f c a = g c a) -> l.foldlM f c = l.foldlM g c
 | [],_,_=>rfl
 | a :: l,c,hh=>by
  simp only [List.foldlM_cons]
  rw [hh a (by simp) c]
  congr 1
  funext d
  exact BM l d (fun a ha=>hh a (by simp [ha]))
theorem ZD {α β:Type} {f g:α -> Option β}:∀ (l:List α),(∀ a ∈ l,f a = g a) -> l.mapM f = l.mapM g
 | [],_=>rfl
 | a :: l,hh=>by
  rw [List.mapM_cons,List.mapM_cons,hh a (by simp),ZD l (fun a ha=>hh a (by simp [ha]))]
theorem cstep_congr {t t':List AV} {h:List Blk} {op:COp} (hh:∀ x ∈ gC op,(⟨t,h⟩:St).ev x = (⟨t',h⟩:St).ev x):cstep ⟨t,h⟩ op = cstep ⟨t',h⟩ op:=by
 cases op with
 | build zs ps =>
  simp only [cstep]
  rw [BM ps _ (fun p hp c=>by rw [hh p.2.2 (yA.2 ⟨p,hp,rfl⟩)])]
 | mkrow ty e ps =>
  simp only [cstep]
  rw [ZD ps (fun p hp=>by rw [hh p hp])]
 | mkfn f cs =>
  simp only [cstep]
  rw [ZD cs (fun p hp=>by rw [hh p hp])]
 | slice e x lo hi mx =>
  have hx:=hh x (by simp [gC])
  have hlo:lo.map (⟨t,h⟩:St).ev = lo.map (⟨t',h⟩:St).ev:=by cases lo with | none=>rfl | some y=>simp [hh y (by simp [gC])]
  have hhi:hi.map (⟨t,h⟩:St).ev = hi.map (⟨t',h⟩:St).ev:=by cases hi with | none=>rfl | some y=>simp [hh y (by simp [gC])]
  cases mx with
  | none=>simp only [cstep,hx,hlo,hhi]
  | some m =>
   have hm:=hh m (by simp [gC])
   simp only [cstep,hx,hlo,hhi,hm]
 | sslice x lo hi =>
  have hx:=hh x (by simp [gC])
  have hlo:lo.map (⟨t,h⟩:St).ev = lo.map (⟨t',h⟩:St).ev:=by cases lo with | none=>rfl | some y=>simp [hh y (by simp [gC])]
  have hhi:hi.map (⟨t,h⟩:St).ev = hi.map (⟨t',h⟩:St).ev:=by cases hi with | none=>rfl | some y=>simp [hh y (by simp [gC])]
  simp only [cstep,hx,hlo,hhi]
 | cutc e x lo hi mx =>
  have hx:=hh x (by simp [gC])
  have hlo:lo.map (⟨t,h⟩:St).ev = lo.map (⟨t',h⟩:St).ev:=by cases lo with | none=>rfl | some y=>simp [hh y (by simp [gC])]
  have hhi:hi.map (⟨t,h⟩:St).ev = hi.map (⟨t',h⟩:St).ev:=by cases hi with | none=>rfl | some y=>simp [hh y (by simp [gC])]
  have hmx:mx.map (⟨t,h⟩:St).ev = mx.map (⟨t',h⟩:St).ev:=by cases mx with | none=>rfl | some y=>simp [hh y (by simp [gC])]
  simp only [cstep,hx,hlo,hhi,hmx]
 | mkrowc e ps =>
  simp only [cstep]
  rw [ZD ps (fun p hp=>by rw [hh p hp])]
 | fill ty zs=>rfl
 | pick c a b=>simp only [cstep,hh c (by simp [gC]),hh a (by simp [gC]),hh b (by simp [gC])]
 | new ty zs=>rfl
 | store n x y=>simp only [cstep,hh x (by simp [gC]),hh y (by simp [gC])]
 | bin op x y=>simp only [cstep,hh x (by simp [gC]),hh y (by simp [gC])]
 | beq ng x y=>simp only [cstep,hh x (by simp [gC]),hh y (by simp [gC])]
 | aggeq ng n x y=>simp only [cstep,hh x (by simp [gC]),hh y (by simp [gC])]
 | iaddr e ar x y=>simp only [cstep,hh x (by simp [gC]),hh y (by simp [gC])]
 | sidx x y=>simp only [cstep,hh x (by simp [gC]),hh y (by simp [gC])]
 | append ty e b x y=>simp only [cstep,hh x (by simp [gC]),hh y (by simp [gC])]
 | copy e x y=>simp only [cstep,hh x (by simp [gC]),hh y (by simp [gC])]
 | mm m x y=>simp only [cstep,hh x (by simp [gC]),hh y (by simp [gC])]
 | make ty e b zs l c=>simp only [cstep,hh l (by simp [gC]),hh c (by simp [gC])]
 | makec e b zs l c=>simp only [cstep,hh l (by simp [gC]),hh c (by simp [gC])]
 | loadc n ag x=>simp only [cstep,hh x (by simp [gC])]
 | faddrc o x=>simp only [cstep,hh x (by simp [gC])]
 | callf f as=>rfl
 | mv x=>simp only [cstep,hh x (by simp [gC])]
 | box t x=>simp only [cstep,hh x (by simp [gC])]
 | load n ag x=>simp only [cstep,hh x (by simp [gC])]
 | isnil f n x=>simp only [cstep,hh x (by simp [gC])]
 | un o x=>simp only [cstep,hh x (by simp [gC])]
 | conv k x=>simp only [cstep,hh x (by simp [gC])]
 | mkmeth f x=>simp only [cstep,hh x (by simp [gC])]
 | bstr x=>simp only [cstep,hh x (by simp [gC])]
 | faddr o x=>simp only [cstep,hh x (by simp [gC])]
 | field o n ag x=>simp only [cstep,hh x (by simp [gC])]
 | ext x i=>simp only [cstep,hh x (by simp [gC])]
 | len s x=>simp only [cstep,hh x (by simp [gC])]
theorem DJ (t:List AV) (h h':List Blk) (x:Operand):(⟨t,h⟩:St).ev x = (⟨t,h'⟩:St).ev x:=by cases x <;> rfl
theorem evmap_heap (t:List AV) (h h':List Blk) (x:Option Operand):x.map (⟨t,h⟩:St).ev = x.map (⟨t,h'⟩:St).ev:=by cases x with | none=>rfl | some y=>simp [DJ t h h' y]
theorem yS {opn:List FuncId} {t:List AV} {op:COp} {av:AV} (hc:HE opn op = .pure) (hs:cstep ⟨t,h⟩ op = PA (av,h')):h' = h /\ ∀ h2,cstep ⟨t,h2⟩ op = PA (av,h2):=by
 have ev:∀ h2 x,(⟨t,h2⟩:St).ev x = (⟨t,h⟩:St).ev x:=fun h2 x=>DJ t h2 h x
 cases op <;> simp only [HE,reduceCtorEq] at hc
 case mv x=>simp only [cstep,BA,MA] at hs ⊢;obtain ⟨rfl,rfl⟩:=hs;exact ⟨rfl,fun h2=>⟨ev h2 x,trivial⟩⟩
 case pick c a b =>
  simp only [cstep,AA,MA] at hs
  obtain ⟨b',hb,rfl,rfl⟩:=hs
  exact ⟨rfl,fun h2=>by simp only [cstep,ev h2,hb,Option.map_some]⟩
 case build zs ps =>
  simp only [cstep,AA,MA] at hs
  obtain ⟨b',hb,rfl,rfl⟩:=hs
  exact ⟨rfl,fun h2=>by simp only [cstep,ev h2,hb,Option.map_some]⟩
 case bin o x y =>
  simp only [cstep,AA,MA] at hs
  obtain ⟨b',hb,rfl,rfl⟩:=hs
  exact ⟨rfl,fun h2=>by simp only [cstep,ev h2,hb,Option.map_some]⟩
 case beq ng x y =>
  simp only [cstep] at hs
  split at hs
  ·rename_i p q hp hq
   simp only [BA,MA] at hs
   obtain ⟨rfl,rfl⟩:=hs
   exact ⟨rfl,fun h2=>by simp only [cstep,ev h2,hp,hq]⟩
  ·cases hs
 case aggeq ng n x y =>
  simp only [cstep] at hs
  split at hs
  ·rename_i p q hp hq
   simp only [CA] at hs
   obtain ⟨s,hs1,r,hr1,hs⟩:=hs
   split at hs
   ·rename_i hl
    simp only [BA,MA] at hs
    obtain ⟨rfl,rfl⟩:=hs
    exact ⟨rfl,fun h2=>by simp only [cstep,ev h2,hp,hq,hs1,hr1,Option.bind_some,if_pos hl]⟩
   ·cases hs
  ·cases hs
 case un o x =>
  simp only [cstep] at hs
  split at hs
  ·rename_i b hp
   simp only [BA,MA] at hs
   obtain ⟨rfl,rfl⟩:=hs
   exact ⟨rfl,fun h2=>by simp only [cstep,ev h2,hp]⟩
  ·rename_i b hp
   simp only [BA,MA] at hs
   obtain ⟨rfl,rfl⟩:=hs
   exact ⟨rfl,fun h2=>by simp only [cstep,ev h2,hp]⟩
  ·cases hs
 case conv k x =>
  simp only [cstep,AA,MA] at hs
  obtain ⟨b',hb,rfl,rfl⟩:=hs
  exact ⟨rfl,fun h2=>by simp only [cstep,ev h2,hb,Option.map_some]⟩
 case mkmeth f x =>
  simp only [cstep] at hs
  split at hs
  ·rename_i b hp
   simp only [BA,MA] at hs
   obtain ⟨rfl,rfl⟩:=hs
   exact ⟨rfl,fun h2=>by simp only [cstep,ev h2,hp]⟩
  ·cases hs
 case mkfn f cs =>
  simp only [cstep,AA,MA] at hs
  obtain ⟨b',hb,rfl,rfl⟩:=hs
  exact ⟨rfl,fun h2=>by simp only [cstep,ev h2];rw [hb];rfl⟩
 case field o n ag x =>
  simp only [cstep] at hs
  split at hs
  ·rename_i cs hp
   split at hs
   ·rename_i hl
    simp only [AA,MA] at hs
    obtain ⟨b',hb,rfl,rfl⟩:=hs
    exact ⟨rfl,fun h2=>by simp only [cstep,ev h2,hp,if_pos hl,hb,Option.map_some]⟩
   ·cases hs
  ·cases hs
 case sidx x y =>
  simp only [cstep] at hs
  split at hs
  ·rename_i s k j hp hq
   split at hs
   ·rename_i hl
    simp only [AA,MA] at hs
    obtain ⟨b',hb,rfl,rfl⟩:=hs
    exact ⟨rfl,fun h2=>by simp only [cstep,ev h2,hp,hq,if_pos hl,hb,Option.map_some]⟩
   ·cases hs
  ·cases hs
 case ext x i =>
  simp only [cstep] at hs
  split at hs
  ·rename_i l hp
   simp only [AA,MA] at hs
   obtain ⟨b',hb,rfl,rfl⟩:=hs
   exact ⟨rfl,fun h2=>by simp only [cstep,ev h2,hp,hb,Option.map_some]⟩
  ·cases hs
 case mm m x y =>
  simp only [cstep] at hs
  split at hs
  ·rename_i k a' k' b hp hq
   simp only [BA,MA] at hs
   obtain ⟨rfl,rfl⟩:=hs
   exact ⟨rfl,fun h2=>by simp only [cstep,ev h2,hp,hq]⟩
  ·cases hs
 case sslice x lo hi =>
  simp only [cstep,CA,AA,MA] at hs
  obtain ⟨s,hs1,b,hb,c,hc1,rfl,rfl⟩:=hs
  have elo:∀ h2,lo.map (⟨t,h2⟩:St).ev = lo.map (⟨t,h⟩:St).ev:=fun h2=>by cases lo with | none=>rfl | some y=>simp [ev h2 y]
  have ehi:∀ h2,hi.map (⟨t,h2⟩:St).ev = hi.map (⟨t,h⟩:St).ev:=fun h2=>by cases hi with | none=>rfl | some y=>simp [ev h2 y]
  exact ⟨rfl,fun h2=>by simp only [cstep,ev h2,elo h2,ehi h2,hs1,hb,hc1,Option.bind_some,Option.map_some]⟩
 case append ty e b x y=>split at hc <;> cases hc
 case cutc e x lo hi mx =>
  simp only [cstep,AA,MA] at hs
  obtain ⟨b',hb,rfl,rfl⟩:=hs
  exact ⟨rfl,fun h2=>by simp only [cstep,ev h2,evmap_heap t h2 h,hb,Option.map_some]⟩
 case loadc n ag x =>
  simp only [cstep] at hs
  split at hs
  ·rename_i l hl
   split at hs
   ·rename_i hn
    simp only [AA,MA] at hs
    obtain ⟨b',hb,rfl,rfl⟩:=hs
    exact ⟨rfl,fun h2=>by simp only [cstep,ev h2,hl,hb];rw [if_pos hn];rfl⟩
   ·cases hs
  ·cases hs
 case faddrc o x =>
  simp only [cstep] at hs
  split at hs
  ·rename_i l hl
   simp only [BA,MA] at hs
   obtain ⟨rfl,rfl⟩:=hs
   exact ⟨rfl,fun h2=>by simp only [cstep,ev h2,hl]⟩
  ·cases hs
 case makec e b zs l c =>
  simp only [cstep] at hs
  split at hs
  ·rename_i k1 n k2 m hl hm
   split at hs
   ·rename_i hcd
    simp only [BA,MA] at hs
    obtain ⟨rfl,rfl⟩:=hs
    exact ⟨rfl,fun h2=>by simp only [cstep,ev h2,hl,hm];rw [if_pos hcd]⟩
   ·cases hs
  ·cases hs
 case mkrowc e ps =>
  simp only [cstep,AA,MA] at hs
  obtain ⟨b',hb,rfl,rfl⟩:=hs
  refine ⟨rfl,fun h2=>?_⟩
  simp only [cstep,ev h2]
  rw [hb];rfl
 case callf f as =>
  exfalso
  cases f <;> simp only [HE,reduceCtorEq] at hc
  all_goals repeat' split at hc
  all_goals cases hc
def SJ (h h':List Blk):Prop:=∀ (b:Nat) (k:Blk),h[b]? = PA k -> ∃ l,h'[b]? = PA { k with live:=l }
theorem SJ.refl (h:List Blk):SJ h h:=fun b k hk=>⟨k.live,hk⟩
theorem SJ.trans (a:SJ h h1) (b:SJ h1 h2):SJ h h2:=fun i k hk=>by
 obtain ⟨l,hl⟩:=a i k hk
 obtain ⟨l',hl'⟩:=b i _ hl
 exact ⟨l',hl'⟩
theorem SJ.append (h ks:List Blk):SJ h (h ++ ks):=fun b k hk=>⟨k.live,by rw [List.getElem?_append_left (dA.1 hk).1];exact hk⟩
theorem SJ.freeze (ids:List Nat) (h:List Blk):SJ h (freeze ids h):=fun b k hk=>by
 rw [BD,hk]
 by_cases hb:ids.contains b = SA
 ·exact ⟨TA,by simp only [Option.map_some,hb,if_true]⟩
 ·exact ⟨k.live,by simp only [Option.map_some,hb,if_false,IA]⟩
def MN (h:List Blk):AV -> Prop
 | .one (.own b _) | .one (.ptr b _ _ _)=>∃ k,h[b]? = PA k
 | _=>True
theorem AVR.inScope {x:AV} {v:Value} (hx:AVR w bad h hd x v):MN h x:=by
 cases hx with
 | one c v hv =>
  cases hv with
  | own b blk hb h1=>exact ⟨_,hb⟩
  | ownStale b ver blk v hb hv h1=>exact ⟨_,hb⟩
  | ptr b i off blk g n cap hb hh=>exact ⟨_,hb⟩
  | ptrStale b ver i off blk v hb hv h1=>exact ⟨_,hb⟩
  | _=>trivial
 | _=>trivial
theorem wS (hS:SJ h h') {n:Nat} {x:AV} {cs:List Cell}:(ZF h n x = PA cs -> ZF h' n x = PA cs) /\ (MN h x -> ZF h' n x = PA cs -> ZF h n x = PA cs):=by
 unfold ZF
 split
 ·rename_i b ver i off
  refine ⟨fun hr=>?_,fun hsc hr=>?_⟩
  ·cases hk:h[b]? with
   | none=>simp [hk] at hr
   | some k=>obtain ⟨l,hl⟩:=hS b k hk;simpa [hk,hl] using hr
  ·obtain ⟨k,hk⟩:=hsc
   obtain ⟨l,hl⟩:=hS b k hk
   simpa [hk,hl] using hr
 ·exact ⟨fun h=>h,fun _ h=>h⟩
 ·exact ⟨fun h=>h,fun _ h=>h⟩
theorem SS (hS:SJ h h') {e:Nat} {x:AV} {cs:List (List Cell)}:(QD h e x = PA cs -> QD h' e x = PA cs) /\ (MN h x -> QD h' e x = PA cs -> QD h e x = PA cs):=by
 unfold QD
 split
 ·rename_i b ver
  refine ⟨fun hr=>?_,fun hsc hr=>?_⟩
  ·cases hk:h[b]? with
   | none=>simp [hk] at hr
   | some k=>obtain ⟨l,hl⟩:=hS b k hk;simpa [hk,hl] using hr
  ·obtain ⟨k,hk⟩:=hsc
   obtain ⟨l,hl⟩:=hS b k hk
   simpa [hk,hl] using hr
 all_goals exact ⟨fun h=>h,fun _ h=>h⟩
theorem JS (hS:SJ h h') {s:Bool} {x:AV} {n:Nat}:(OF h s x = PA n -> OF h' s x = PA n) /\ (MN h x -> OF h' s x = PA n -> OF h s x = PA n):=by
 unfold OF
 split
 ·rename_i b ver
  refine ⟨fun hr=>?_,fun hsc hr=>?_⟩
  ·cases hk:h[b]? with
   | none=>simp [hk] at hr
   | some k=>obtain ⟨l,hl⟩:=hS b k hk;simpa [hk,hl] using hr
  ·obtain ⟨k,hk⟩:=hsc
   obtain ⟨l,hl⟩:=hS b k hk
   simpa [hk,hl] using hr
 all_goals exact ⟨fun h=>h,fun _ h=>h⟩
theorem YN (hS:SJ h h') {s:Bool} {x:AV} {n:Bool}:(vE h s x = PA n -> vE h' s x = PA n) /\ (MN h x -> vE h' s x = PA n -> vE h s x = PA n):=by
 unfold vE
 split
 ·exact ⟨fun h=>h,fun _ h=>h⟩
 ·exact ⟨fun h=>h,fun _ h=>h⟩
 ·exact ⟨fun h=>h,fun _ h=>h⟩
 ·rename_i b ver
  refine ⟨fun hr=>?_,fun hsc hr=>?_⟩
  ·cases hk:h[b]? with
   | none=>simp [hk] at hr
   | some k=>obtain ⟨l,hl⟩:=hS b k hk;simpa [hk,hl] using hr
  ·obtain ⟨k,hk⟩:=hsc
   obtain ⟨l,hl⟩:=hS b k hk
   simpa [hk,hl] using hr
 all_goals exact ⟨fun h=>h,fun _ h=>h⟩
theorem read_sim {opn:List FuncId} {t:List AV} {op:COp} {av:AV} (hc:HE opn op = .read) (hS:SJ h h') :
  (∀ h1,cstep ⟨t,h⟩ op = PA (av,h1) -> h1 = h /\ cstep ⟨t,h'⟩ op = PA (av,h')) /\
  (∀ h1,(∀ x ∈ gC op,MN h ((⟨t,h⟩:St).ev x)) -> cstep ⟨t,h'⟩ op = PA (av,h1) -> h1 = h' /\ cstep ⟨t,h⟩ op = PA (av,h)):=by
 have ev:∀ x,(⟨t,h'⟩:St).ev x = (⟨t,h⟩:St).ev x:=fun x=>DJ t h' h x
 cases op <;> simp only [HE,reduceCtorEq] at hc
 case isnil f n x =>
  refine ⟨fun h1 hs=>?_,fun h1 hsc hs=>?_⟩
  ·simp only [cstep,AA,MA] at hs ⊢
   obtain ⟨b,hb,rfl,rfl⟩:=hs
   exact ⟨rfl,b,by rw [ev];exact (YN hS).1 hb,rfl,trivial⟩
  ·simp only [cstep,AA,MA] at hs ⊢
   obtain ⟨b,hb,rfl,rfl⟩:=hs
   rw [ev] at hb
   exact ⟨rfl,b,(YN hS).2 (hsc x (by simp [gC])) hb,rfl,trivial⟩
 case load n ag x =>
  refine ⟨fun h1 hs=>?_,fun h1 hsc hs=>?_⟩
  ·simp only [cstep,CA,AA,MA] at hs ⊢
   obtain ⟨cs,hb,v,hv,rfl,rfl⟩:=hs
   exact ⟨rfl,cs,by rw [ev];exact (wS hS).1 hb,v,hv,rfl,trivial⟩
  ·simp only [cstep,CA,AA,MA] at hs ⊢
   obtain ⟨cs,hb,v,hv,rfl,rfl⟩:=hs
   rw [ev] at hb
   exact ⟨rfl,cs,(wS hS).2 (hsc x (by simp [gC])) hb,v,hv,rfl,trivial⟩
 case bstr x =>
  refine ⟨fun h1 hs=>?_,fun h1 hsc hs=>?_⟩
  ·simp only [cstep,CA,AA,MA] at hs ⊢
   obtain ⟨cs,hb,v,hv,rfl,rfl⟩:=hs
   exact ⟨rfl,cs,by rw [ev];exact (SS hS).1 hb,v,hv,rfl,trivial⟩
  ·simp only [cstep,CA,AA,MA] at hs ⊢
   obtain ⟨cs,hb,v,hv,rfl,rfl⟩:=hs
   rw [ev] at hb
   exact ⟨rfl,cs,(SS hS).2 (hsc x (by simp [gC])) hb,v,hv,rfl,trivial⟩
 case len s x =>
  refine ⟨fun h1 hs=>?_,fun h1 hsc hs=>?_⟩
  ·simp only [cstep,AA,MA] at hs ⊢
   obtain ⟨b,hb,rfl,rfl⟩:=hs
   exact ⟨rfl,b,by rw [ev];exact (JS hS).1 hb,rfl,trivial⟩
  ·simp only [cstep,AA,MA] at hs ⊢
   obtain ⟨b,hb,rfl,rfl⟩:=hs
   rw [ev] at hb
   exact ⟨rfl,b,(JS hS).2 (hsc x (by simp [gC])) hb,rfl,trivial⟩
 case faddr o x =>
  refine ⟨fun h1 hs=>?_,fun h1 hsc hs=>?_⟩
  ·simp only [cstep,ev] at hs ⊢
   split at hs
   ·rename_i b ver i off hev
    cases hk:h[b]? with
    | none=>simp [hk] at hs
    | some k =>
     obtain ⟨l,hl⟩:=hS b k hk
     simp only [hk] at hs
     simp only [hl]
     split at hs
     ·rename_i hver
      simp only [BA,MA] at hs
      obtain ⟨rfl,rfl⟩:=hs
      exact ⟨rfl,by rw [if_pos hver]⟩
     ·cases hs
   ·simp only [BA,MA] at hs
    obtain ⟨rfl,rfl⟩:=hs
    exact ⟨rfl,rfl⟩
   ·cases hs
  ·have hsx:=hsc x (by simp [gC])
   simp only [cstep,ev] at hs ⊢
   split at hs
   ·rename_i b ver i off hev
    rw [hev] at hsx
    obtain ⟨k,hk⟩:=hsx
    obtain ⟨l,hl⟩:=hS b k hk
    simp only [hl] at hs
    simp only [hk]
    split at hs
    ·rename_i hver
     simp only [BA,MA] at hs
     obtain ⟨rfl,rfl⟩:=hs
     exact ⟨rfl,by rw [if_pos hver]⟩
    ·cases hs
   ·simp only [BA,MA] at hs
    obtain ⟨rfl,rfl⟩:=hs
    exact ⟨rfl,rfl⟩
   ·cases hs
 case iaddr e ar x y =>
  refine ⟨fun h1 hs=>?_,fun h1 hsc hs=>?_⟩
  ·simp only [cstep,ev] at hs ⊢
   cases hi:((⟨t,h⟩:St).ev y).int? with
   | none=>simp [hi] at hs
   | some p =>
    simp only [hi] at hs ⊢
    split at hs
    ·rename_i b ver hev
     cases hk:h[b]? with
     | none=>simp [hk] at hs
     | some k =>
      obtain ⟨l,hl⟩:=hS b k hk
      simp only [hk] at hs
      simp only [hl]
      split at hs
      ·rename_i hver
       simp only [BA,MA] at hs
       obtain ⟨rfl,rfl⟩:=hs
       exact ⟨rfl,by rw [if_pos hver]⟩
      ·cases hs
    ·rename_i e' l hev
     split at hs
     ·rename_i hcnd
      rw [if_pos hcnd]
      cases hq:l[p.2.toNat]? with
      | none=>simp [hq] at hs
      | some r=>simp only [hq,BA,MA] at hs ⊢;obtain ⟨rfl,rfl⟩:=hs;exact ⟨rfl,rfl,trivial⟩
     ·cases hs
    ·rename_i e' l hev
     split at hs
     ·rename_i hcnd
      rw [if_pos hcnd]
      cases hq:l[p.2.toNat]? with
      | none=>simp [hq] at hs
      | some r=>simp only [hq,BA,MA] at hs ⊢;obtain ⟨rfl,rfl⟩:=hs;exact ⟨rfl,rfl,trivial⟩
     ·cases hs
    ·rename_i n b ver i' off hev
     cases hk:h[b]? with
     | none=>simp [hk] at hs
     | some k =>
      obtain ⟨l,hl⟩:=hS b k hk
      simp only [hk] at hs
      simp only [hl]
      split at hs
      ·rename_i hver
       simp only [BA,MA] at hs
       obtain ⟨rfl,rfl⟩:=hs
       exact ⟨rfl,by rw [if_pos hver]⟩
      ·cases hs
    ·rename_i n l hev
     split at hs
     ·rename_i hcnd
      simp only [BA,MA] at hs
      obtain ⟨rfl,rfl⟩:=hs
      exact ⟨rfl,by rw [if_pos hcnd]⟩
     ·cases hs
    ·cases hs
  ·have hsx:=hsc x (by simp [gC])
   simp only [cstep,ev] at hs ⊢
   cases hi:((⟨t,h⟩:St).ev y).int? with
   | none=>simp [hi] at hs
   | some p =>
    simp only [hi] at hs ⊢
    split at hs
    ·rename_i b ver hev
     rw [hev] at hsx
     obtain ⟨k,hk⟩:=hsx
     obtain ⟨l,hl⟩:=hS b k hk
     simp only [hl] at hs
     simp only [hk]
     split at hs
     ·rename_i hver
      simp only [BA,MA] at hs
      obtain ⟨rfl,rfl⟩:=hs
      exact ⟨rfl,by rw [if_pos hver]⟩
     ·cases hs
    ·rename_i e' l hev
     split at hs
     ·rename_i hcnd
      rw [if_pos hcnd]
      cases hq:l[p.2.toNat]? with
      | none=>simp [hq] at hs
      | some r=>simp only [hq,BA,MA] at hs ⊢;obtain ⟨rfl,rfl⟩:=hs;exact ⟨rfl,rfl,trivial⟩
     ·cases hs
    ·rename_i e' l hev
     split at hs
     ·rename_i hcnd
      rw [if_pos hcnd]
      cases hq:l[p.2.toNat]? with
      | none=>simp [hq] at hs
      | some r=>simp only [hq,BA,MA] at hs ⊢;obtain ⟨rfl,rfl⟩:=hs;exact ⟨rfl,rfl,trivial⟩
     ·cases hs
    ·rename_i n b ver i' off hev
     rw [hev] at hsx
     obtain ⟨k,hk⟩:=hsx
     obtain ⟨l,hl⟩:=hS b k hk
     simp only [hl] at hs
     simp only [hk]
     split at hs
     ·rename_i hver
      simp only [BA,MA] at hs
      obtain ⟨rfl,rfl⟩:=hs
      exact ⟨rfl,by rw [if_pos hver]⟩
     ·cases hs
    ·rename_i n l hev
     split at hs
     ·rename_i hcnd
      simp only [BA,MA] at hs
      obtain ⟨rfl,rfl⟩:=hs
      exact ⟨rfl,by rw [if_pos hcnd]⟩
     ·cases hs
    ·cases hs
 case append ty e b x y=>split at hc <;> cases hc
 case callf f as =>
  exfalso
  cases f <;> simp only [HE,reduceCtorEq] at hc
  all_goals repeat' split at hc
  all_goals cases hc
def sR (h h':List Blk):Prop:=∀ (b:Nat) (k:Blk),h[b]? = PA k -> (∃ l,h'[b]? = PA { k with live:=l }) \/ ∃ k',h'[b]? = PA k' /\ k.ver < k'.ver
theorem SJ.bmp (a:SJ h h'):sR h h':=fun b k hk=>.inl (a b k hk)
theorem sR.refl (h:List Blk):sR h h:=(SJ.refl h).bmp
theorem sR.trans (a:sR h h1) (b:sR h1 h2):sR h h2:=fun i k hk=>by
 rcases a i k hk with ⟨l,hl⟩ | ⟨k',hk',hv⟩
 ·rcases b i _ hl with ⟨l',hl'⟩ | ⟨k'',hk'',hv'⟩
  ·exact .inl ⟨l',hl'⟩
  ·exact .inr ⟨k'',hk'',hv'⟩
 ·rcases b i _ hk' with ⟨l',hl'⟩ | ⟨k'',hk'',hv'⟩
  ·exact .inr ⟨_,hl',hv⟩
  ·exact .inr ⟨k'',hk'',by omega⟩
def mH (h:List Blk):AV -> Prop
 | .one (.own b v) | .one (.ptr b v _ _)=>∃ k,h[b]? = PA k /\ v <= k.ver
 | _=>True
theorem AVR.scopedV {x:AV} {v:Value} (hx:AVR w bad h hd x v):mH h x:=by
 cases hx with
 | one c v hv =>
  cases hv with
  | own b blk hb h1=>exact ⟨_,hb,EA _⟩
  | ownStale b ver blk v hb hv h1=>exact ⟨_,hb,Nat.le_of_lt hv⟩
  | ptr b i off blk g n cap hb hh=>exact ⟨_,hb,EA _⟩
  | ptrStale b ver i off blk v hb hv h1=>exact ⟨_,hb,Nat.le_of_lt hv⟩
  | _=>trivial
 | _=>trivial
theorem readN_bmp (hS:sR h h') {n:Nat} {x:AV} {cs:List Cell} (hsc:mH h x) (hr:ZF h' n x = PA cs):ZF h n x = PA cs:=by
 revert hr
 unfold ZF
 split
 ·rename_i b ver i off
  intro hr
  obtain ⟨k,hk,hv⟩:=hsc
  rcases hS b k hk with ⟨l,hl⟩ | ⟨k',hk',hv'⟩
  ·simpa [hk,hl] using hr
  ·simp only [hk'] at hr
   rw [if_neg (by omega)] at hr
   cases hr
 ·exact fun h=>h
 ·exact fun h=>h
theorem elems_bmp (hS:sR h h') {e:Nat} {x:AV} {cs:List (List Cell)} (hsc:mH h x) (hr:QD h' e x = PA cs):QD h e x = PA cs:=by
 revert hr
 unfold QD
 split
 ·rename_i b ver
  intro hr
  obtain ⟨k,hk,hv⟩:=hsc
  rcases hS b k hk with ⟨l,hl⟩ | ⟨k',hk',hv'⟩
  ·simpa [hk,hl] using hr
  ·simp only [hk'] at hr
   rw [if_neg (by omega)] at hr
   cases hr
 all_goals exact fun h=>h
theorem lenAV_bmp (hS:sR h h') {s:Bool} {x:AV} {n:Nat} (hsc:mH h x) (hr:OF h' s x = PA n):OF h s x = PA n:=by
 revert hr
 unfold OF
 split
 ·rename_i b ver
  intro hr
  obtain ⟨k,hk,hv⟩:=hsc
  rcases hS b k hk with ⟨l,hl⟩ | ⟨k',hk',hv'⟩
  ·simpa [hk,hl] using hr
  ·simp only [hk'] at hr
   rw [if_neg (show ¬ (ver = k'.ver /\ 0 < k'.e) by omega)] at hr
   split at hr <;> cases hr
 all_goals exact fun h=>h
theorem isNilAV_bmp (hS:sR h h') {s:Bool} {x:AV} {n:Bool} (hsc:mH h x) (hr:vE h' s x = PA n):vE h s x = PA n:=by
 revert hr
 unfold vE
 split
 ·exact fun h=>h
 ·exact fun h=>h
 ·exact fun h=>h
 ·rename_i b ver
  intro hr
  obtain ⟨k,hk,hv⟩:=hsc
  rcases hS b k hk with ⟨l,hl⟩ | ⟨k',hk',hv'⟩
  ·simpa [hk,hl] using hr
  ·simp only [hk'] at hr
   rw [if_neg (show ¬ (ver = k'.ver /\ 0 < k'.e) by omega)] at hr
   split at hr <;> cases hr
 all_goals exact fun h=>h
theorem read_bmp {opn:List FuncId} {t:List AV} {op:COp} {av:AV} (hc:HE opn op = .read) (hS:sR h h') {h1:List Blk} (hsc:∀ x ∈ gC op,mH h ((⟨t,h⟩:St).ev x)) (hs:cstep ⟨t,h'⟩ op = PA (av,h1)) :
  h1 = h' /\ cstep ⟨t,h⟩ op = PA (av,h):=by
 have ev:∀ x,(⟨t,h'⟩:St).ev x = (⟨t,h⟩:St).ev x:=fun x=>DJ t h' h x
 cases op <;> simp only [HE,reduceCtorEq] at hc
 case append ty e b x y=>split at hc <;> cases hc
 case isnil f n x =>
  simp only [cstep,AA,MA] at hs ⊢
  obtain ⟨b,hb,rfl,rfl⟩:=hs
  rw [ev] at hb
  exact ⟨rfl,b,isNilAV_bmp hS (hsc x (by simp [gC])) hb,rfl,trivial⟩
 case load n ag x =>
  simp only [cstep,CA,AA,MA] at hs ⊢
  obtain ⟨cs,hb,v,hv,rfl,rfl⟩:=hs
  rw [ev] at hb
  exact ⟨rfl,cs,readN_bmp hS (hsc x (by simp [gC])) hb,v,hv,rfl,trivial⟩
 case bstr x =>
  simp only [cstep,CA,AA,MA] at hs ⊢
  obtain ⟨cs,hb,v,hv,rfl,rfl⟩:=hs
  rw [ev] at hb
  exact ⟨rfl,cs,elems_bmp hS (hsc x (by simp [gC])) hb,v,hv,rfl,trivial⟩
 case len s x =>
  simp only [cstep,AA,MA] at hs ⊢
  obtain ⟨b,hb,rfl,rfl⟩:=hs
  rw [ev] at hb
  exact ⟨rfl,b,lenAV_bmp hS (hsc x (by simp [gC])) hb,rfl,trivial⟩
 case faddr o x =>
  have hsx:=hsc x (by simp [gC])
  simp only [cstep,ev] at hs ⊢
  split at hs
  ·rename_i b ver i off hev
   rw [hev] at hsx
   obtain ⟨k,hk,hv⟩:=hsx
   rcases hS b k hk with ⟨l,hl⟩ | ⟨k',hk',hv'⟩
   ·simp only [hl] at hs
    simp only [hk]
    split at hs
    ·rename_i hver
     simp only [BA,MA] at hs
     obtain ⟨rfl,rfl⟩:=hs
     exact ⟨rfl,by rw [if_pos hver]⟩
    ·cases hs
   ·simp only [hk'] at hs
    rw [if_neg (show ¬ (ver = k'.ver /\ 0 < k'.e) by omega)] at hs
    cases hs
  ·simp only [BA,MA] at hs
   obtain ⟨rfl,rfl⟩:=hs
   exact ⟨rfl,rfl⟩
  ·cases hs
 case iaddr e ar x y =>
  have hsx:=hsc x (by simp [gC])
  simp only [cstep,ev] at hs ⊢
  cases hi:((⟨t,h⟩:St).ev y).int? with
  | none=>simp [hi] at hs
  | some p =>
   simp only [hi] at hs ⊢
   split at hs
   ·rename_i b ver hev
    rw [hev] at hsx
    obtain ⟨k,hk,hv⟩:=hsx
    rcases hS b k hk with ⟨l,hl⟩ | ⟨k',hk',hv'⟩
    ·simp only [hl] at hs
     simp only [hk]
     split at hs
     ·rename_i hver
      simp only [BA,MA] at hs
      obtain ⟨rfl,rfl⟩:=hs
      exact ⟨rfl,by rw [if_pos hver]⟩
     ·cases hs
    ·simp only [hk'] at hs
     split at hs
     ·rename_i hver;exfalso;have:=hver.1;omega
     ·cases hs
   ·rename_i e' l hev
    split at hs
    ·rename_i hcnd
     rw [if_pos hcnd]
     cases hq:l[p.2.toNat]? with
     | none=>simp [hq] at hs
     | some r=>simp only [hq,BA,MA] at hs ⊢;obtain ⟨rfl,rfl⟩:=hs;exact ⟨rfl,rfl,trivial⟩
    ·cases hs
   ·rename_i e' l hev
    split at hs
    ·rename_i hcnd
     rw [if_pos hcnd]
     cases hq:l[p.2.toNat]? with
     | none=>simp [hq] at hs
     | some r=>simp only [hq,BA,MA] at hs ⊢;obtain ⟨rfl,rfl⟩:=hs;exact ⟨rfl,rfl,trivial⟩
    ·cases hs
   ·rename_i n b ver i' off hev
    rw [hev] at hsx
    obtain ⟨k,hk,hv⟩:=hsx
    rcases hS b k hk with ⟨l,hl⟩ | ⟨k',hk',hv'⟩
    ·simp only [hl] at hs
     simp only [hk]
     split at hs
     ·rename_i hver
      simp only [BA,MA] at hs
      obtain ⟨rfl,rfl⟩:=hs
      exact ⟨rfl,by rw [if_pos hver]⟩
     ·cases hs
    ·simp only [hk'] at hs
     split at hs
     ·rename_i hver;exfalso;have:=hver.1;omega
     ·cases hs
   ·rename_i n l hev
    split at hs
    ·rename_i hcnd
     simp only [BA,MA] at hs
     obtain ⟨rfl,rfl⟩:=hs
     exact ⟨rfl,by rw [if_pos hcnd]⟩
    ·cases hs
   ·cases hs
 case callf f as =>
  exfalso
  cases f <;> simp only [HE,reduceCtorEq] at hc
  all_goals repeat' split at hc
  all_goals cases hc
end Go.Am
