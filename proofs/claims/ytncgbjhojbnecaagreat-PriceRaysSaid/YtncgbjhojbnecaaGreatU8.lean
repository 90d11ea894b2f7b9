/- No table of the program's is read here. -/
import Derived.Test.YtncgbjhojbnecaaGreatProg
import Derived.KernelRfl
import Derived.IntWalk
import Derived.RangeFuncBox
import Derived.RangeFuncBound
import Derived.Shelf.Abstract
import Derived.WalkKit
import Derived.OwnWalkIn
import Derived.TacticsInMore
import Derived.LoopNIn
import Derived.LoopIn
import Derived.Test.YtncgbjhojbnecaaGreatU5
import Derived.Test.YtncgbjhojbnecaaGreatU6
set_option linter.unusedSimpArgs false
set_option linter.unusedVariables false
set_option linter.unnecessarySimpa false
set_option maxRecDepth 100000
set_option maxHeartbeats 4000000
open Option renaming none -> QA, some -> PA
open Bool renaming true -> SA, false -> TA, false_eq_true -> IA
open Go.Am.Way renaming imp -> W8
open Go.Am.WayR renaming imp -> X8
open Nat renaming le_refl -> EA, le_trans -> GA, zero_le -> fN, lt_of_lt_of_le -> HA
open List renaming getElem?_eq_getElem -> aA, length_cons -> oA, length_nil -> pA, nil_append -> qA, cons_append -> rA, length_map -> eA, replicate -> jA, length_replicate -> tA, mem_range -> zA
open Int renaming natCast_add -> NA
namespace Go.Proofs.YtncgbjhojbnecaaGreat
open Go Go.Am
instance:Glb:=⟨fun _=>QA⟩
end Go.Proofs.YtncgbjhojbnecaaGreat
namespace Go.Proofs.YtncgbjhojbnecaaGreat
open Go Go.Am Go.Proofs Go.Off
open Nat renaming reduceAdd -> nA,reduceSub -> nS,reduceMul -> nM,reduceBEq -> nB
open Int renaming reduceToNat -> iT,reduceAdd -> iA,reduceSub -> iS,reduceMul -> iM,reduceNeg -> iN
theorem mixed:Tryz.prog.follows .mixedOrders = SA:=by kernel_rfl
instance:Mixed Tryz.prog:=⟨mixed⟩
def fU (d:UInt32):List CV:=[.val (.int .u32 (d.toNat:Int))]
abbrev nr (a:iG):CV:=jB 1 fU a
abbrev aN (a:iG):AV:=.one (.c (nr a))
abbrev aI (n:Int):AV:=.one (.c (.val (.int .i64 n)))
abbrev aB (b:Bool):AV:=.one (.c (.val (.bool b)))
abbrev aU (n:Int):AV:=.one (.c (.val (.int .u64 n)))
abbrev c127:CC:=(.seq (.reg [(oD 2 (.mv nC))]) (.seq (.seq (.reg [(mV 3 0),(oD 4 (.isnil TA TA (tP 3)))]) (.cond (tP 4) (.seq (.reg [(oD 2 (.mv nC))]) .ret) .skip)) (.seq (.reg [(oD 5 (.mkrow 140 1 [])),(mV 6 0),(oD 7 (.append 140 1 4 (tP 5) (tP 6))),(mV 2 7)]) .ret)))
theorem cc127:ZA Tryz.prog [] (Tryz.f127.body.getD .skip) = PA c127:=by kernel_rfl
theorem body127:Tryz.f127.body = PA (Tryz.f127.body.getD .skip):=rfl
abbrev c92_k1:CC:=(.seq (.reg [(mV 18 0),(mV 19 3),(oD 20 (.slice 1 (tP 18) QA (PA (tP 19)) QA)),(oD 21 (.callf (.func 127) [(tP 20)])),(mV 2 21)]) .ret)
abbrev c92_b1:CC:=(.seq (.seq (.reg [(mV 6 3),(bC 7 .gtr 6 0),(mV 8 7),(gM 9 8 SA 0),(gM 10 8 SA 3),(oG 11 8 SA (.bin .sub (tP 10) (.const (.int .i64 (1))))),(oG 12 8 SA (.iaddr 1 QA (tP 9) (tP 11))),(oG 13 8 SA (.load 1 TA (tP 12))),(oG 14 8 SA (.bin .eql (tP 13) (.const (.int .u32 (0))))),(pF 15 8 14)]) (.cond (tP 15) .skip (.exit 0))) (.block 1 (.reg [(mV 16 3),(bC 17 .sub 16 1),(mV 3 17)])))
abbrev c92:CC:=(.seq (.reg [(oD 2 (.mv nC))]) (.seq (.reg [(mV 4 0),(nL 5 4),(mV 3 5)]) (.seq (.block 0 (.loop c92_b1)) c92_k1)))
theorem cc92:ZA Tryz.prog [] (Tryz.f92.body.getD .skip) = PA c92:=by kernel_rfl
theorem body92:Tryz.f92.body = PA (Tryz.f92.body.getD .skip):=rfl
abbrev c128:CC:=(.seq (.reg [(oD 4 (.mv (.const (.int .u64 (0)))))]) (.seq (.seq (.reg [(mV 5 1),(mV 6 0),(nL 7 6),(bB 8 .lss 5 7)]) (.cond (tP 8) (.seq (.reg [(mV 9 0),(mV 10 1),(xA 11 1 9 10),(lF 12 1 11),(oD 13 (.conv .u64 (tP 12))),(mV 4 13)]) .ret) .skip)) (.seq (.reg [(oD 4 (.mv (.const (.int .u64 (0)))))]) .ret)))
theorem cc128:ZA Tryz.prog [] (Tryz.f128.body.getD .skip) = PA c128:=by kernel_rfl
theorem body128:Tryz.f128.body = PA (Tryz.f128.body.getD .skip):=rfl
theorem clone_nil:YA Tryz.prog 127 [aN QA] (.ret (aN QA)):=by
 refine WA (rs:=[(RV.tmp 2)]) Tryz.func127 (fun a w=>Tryz.call127 a w) body127 cc127 (by kernel_rfl) ?_
 rw [Tryz.ntmps127]
 simp only [pC,nA,nS]
 repeat (first | (with_reducible first | refine W8 ?_ | refine VA rfl ?_) | ((with_reducible refine X8 fun K hK=>?_);simp (disch:=first | omega | simp only [sB];omega) only [qB,reduceIte,reduceCtorEq,iT,nA,nS,nM,iA,iS,iM,iN,fU,Option.isNone];subst hK))
 exact ⟨_,rfl,JD.ret_c⟩
theorem clone_C (l:List UInt32) (hl:l.length <= 2000000000):YA Tryz.prog 127 [aN (PA l)] (.fresh 140 1 (l.map fU) SA):=by
 refine WA (rs:=[(RV.tmp 2)]) Tryz.func127 (fun a w=>Tryz.call127 a w) body127 cc127 (by kernel_rfl) ?_
 rw [Tryz.ntmps127]
 simp only [pC,nA,nS]
 repeat (first | (with_reducible first | refine W8 ?_ | refine VA rfl ?_) | ((with_reducible refine X8 fun K hK=>?_);simp (disch:=first | omega | simp only [sB];omega) only [qB,reduceIte,reduceCtorEq,iT,nA,nS,nM,iA,iS,iM,iN,fU,Option.isNone];subst hK))
 exact ⟨_,rfl,JD.fresh_enc rfl⟩
theorem at_C (a:iG) (k:Nat) (ha:(UA a).length <= 2000000000):YA Tryz.prog 128 [aN a,aI k] (.ret (aU (KC (UA a) k))):=by
 refine WA (rs:=[(RV.tmp 4)]) Tryz.func128 (fun a w=>Tryz.call128 a w) body128 cc128 (by kernel_rfl) ?_
 rw [Tryz.ntmps128]
 simp only [pC,nA,nS]
 by_cases hk:k < (UA a).length
 ·have h1:=((UA a)[k]).toNat_lt
  repeat (first | (with_reducible first | refine W8 ?_ | refine VA rfl ?_) | ((with_reducible refine X8 fun K hK=>?_);simp (disch:=first | omega | simp only [sB];omega) only [qB,reduceIte,reduceCtorEq,iT,nA,nS,nM,iA,iS,iM,iN,fU];subst hK))
  rw [iE _ _ hk]
  exact ⟨_,rfl,JD.ret_c⟩
 ·repeat (first | (with_reducible first | refine W8 ?_ | refine VA rfl ?_) | ((with_reducible refine X8 fun K hK=>?_);simp (disch:=first | omega | simp only [sB];omega) only [qB,reduceIte,reduceCtorEq,iT,nA,nS,nM,iA,iS,iM,iN,fU];subst hK))
  rw [show KC (UA a) k = 0 from dif_neg hk]
  exact ⟨_,rfl,JD.ret_c⟩
theorem trim_some (l:List UInt32) (ha:l.length <= 2000000000):YA Tryz.prog 92 [aN (PA l)] (.fresh 140 1 ((DB (val l)).map fU) SA):=by
 refine WA (rs:=[(RV.tmp 2)]) Tryz.func92 (fun a w=>Tryz.call92 a w) body92 cc92 (by kernel_rfl) ?_
 rw [Tryz.ntmps92]
 simp only [pC,nA,nS]
 repeat (first | (with_reducible first | refine W8 ?_ | refine VA rfl ?_) | ((with_reducible refine X8 fun K hK=>?_);simp (disch:=first | omega | simp only [sB];omega) only [qB,reduceIte,reduceCtorEq,iT,nA,nS,nM,iA,iS,iM,iN,fU];subst hK))
 refine xB (fun (zz:Nat)=>⟨(aN (PA l) :: .junk :: .one (.c (.val (.slice QA 0 0))) :: aI zz :: L8 (.junk :: .junk :: [])),[]⟩) (fun (zz:Nat)=>zz <= l.length /\ val (l.take zz) = val l) (fun (zz:Nat)=>zz) (l.length) ?hI1 (TB.headA (EA _) [SA,TA,SA,SA]) ?hB1
 ·exact ⟨EA _,by rw [List.take_length]⟩
 rintro n ⟨hn,hv⟩
 by_cases h0:n = 0
 ·subst h0
  repeat (first | (with_reducible first | refine W8 ?_ | refine VA rfl ?_) | ((with_reducible refine X8 fun K hK=>?_);simp (disch:=first | omega | simp only [sB];omega) only [qB,reduceIte,reduceCtorEq,iT,nA,nS,nM,iA,iS,iM,iN,fU];subst hK) | (apply KG (clone_C [] (by simp)) rfl;(case hcl=>(simp only [oE,St.ev,yB,NE];(repeat (first | exact kB | (apply gB;(first | (refine CB rfl (by decide)) | (refine BB rfl (by decide) ?_;assumption) | rfl))));done));(case hu=>(simp only [oE,St.ev,yB,NE];(repeat (first | exact RC | (apply AC;(first | (apply xC;rfl) | rfl))));done));(case hh=>((simp only [YH,nB,nA,IA,if_true,if_false,reduceIte]) <;> rfl))))
  refine ⟨_,rfl,?_⟩
  rw [<- hv,show DB (val (l.take 0)) = [] from zC]
  exact JD.fresh_enc rfl
 ·have hlt:n - 1 < l.length:=by omega
  have hi:((n:Int) - 1).toNat = n - 1:=by omega
  have hn1:n - 1 + 1 = n:=by omega
  by_cases hz:l[n - 1].toNat = 0
  ·repeat (first | (with_reducible first | refine W8 ?_ | refine VA rfl ?_) | ((with_reducible refine X8 fun K hK=>?_);simp (disch:=first | omega | simp only [sB];omega) only [qB,reduceIte,reduceCtorEq,iT,nA,nS,nM,iA,iS,iM,iN,fU,hi,hz];subst hK))
   have hc:((n - 1:Nat):Int) = (n:Int) - 1:=by omega
   refine ⟨(n - 1),?hI2,?hM2,TB.head (EA _) [SA,TA,SA,SA] ?hT2 ?hH2⟩
   case hT2 | hH2=>first | (simp (disch:=omega) only [pD,IB,lB,XA,clean1,uB,reduceIte,iS,iA,iN,hc];done) | rfl
   ·refine ⟨by omega,?_⟩
    have:=bL l (n - 1) hlt
    rw [hn1,hz] at this
    rw [<- hv,this]
    simp
   ·exact (by omega)
  ·repeat (first | (with_reducible first | refine W8 ?_ | refine VA rfl ?_) | ((with_reducible refine X8 fun K hK=>?_);simp (disch:=first | omega | simp only [sB];omega) only [qB,reduceIte,reduceCtorEq,iT,nA,nS,nM,iA,iS,iM,iN,fU,hi];subst hK) | (apply KG (clone_C (l.take n) (by simp;omega)) rfl;(case hcl=>(simp only [oE,St.ev,yB,NE];(repeat (first | exact kB | (apply gB;(first | (refine CB rfl (by decide)) | (refine BB rfl (by decide) ?_;assumption) | rfl))));done));(case hu=>(simp only [oE,St.ev,yB,NE];(repeat (first | exact RC | (apply AC;(first | (apply xC;rfl) | rfl))));done));(case hh=>((simp only [YH,nB,nA,IA,if_true,if_false,reduceIte]) <;> rfl))))
   refine ⟨_,rfl,?_⟩
   have ht:Off.trimmed (l.take n):=fun hne=>by
    rw [List.getLast_eq_getElem]
    simp only [List.length_take,Nat.min_eq_left hn,List.getElem_take]
    exact fun e=>hz (by rw [e];rfl)
   rw [<- hv,digits_val ht]
   exact JD.fresh_enc rfl
theorem trim_none:YA Tryz.prog 92 [aN QA] (.ret (aN QA)):=by
 refine WA (rs:=[(RV.tmp 2)]) Tryz.func92 (fun a w=>Tryz.call92 a w) body92 cc92 (by kernel_rfl) ?_
 rw [Tryz.ntmps92]
 simp only [pC,nA,nS]
 repeat (first | (with_reducible first | refine W8 ?_ | refine VA rfl ?_) | ((with_reducible refine X8 fun K hK=>?_);simp (disch:=first | omega | simp only [sB];omega) only [qB,reduceIte,reduceCtorEq,iT,nA,nS,nM,iA,iS,iM,iN,fU];subst hK))
 refine xB (fun (zz:Unit)=>⟨(aN QA :: .junk :: .one (.c (.val (.slice QA 0 0))) :: aI 0 :: L8 (.junk :: .junk :: [])),[]⟩) (fun (zz:Unit)=>True) (fun (zz:Unit)=>0) (()) ?hI3 (TB.headA (EA _) [SA,TA,SA,SA]) ?hB3
 ·trivial
 rintro _ _
 repeat (first | (with_reducible first | refine W8 ?_ | refine VA rfl ?_) | ((with_reducible refine X8 fun K hK=>?_);simp (disch:=first | omega | simp only [sB];omega) only [qB,reduceIte,reduceCtorEq,iT,nA,nS,nM,iA,iS,iM,iN,fU];subst hK) | refine KB (clone_nil) rfl rfl rfl ?_)
 exact ⟨_,rfl,JD.ret_c⟩
theorem jF (a:iG) (ha:(UA a).length <= 2000000000):YA Tryz.prog 92 [aN a] (.ret (aN (a.map fun l=>DB (val l)))):=by
 cases a with
 | none=>exact trim_none
 | some l=>exact (trim_some l ha).fresh_ret
end Go.Proofs.YtncgbjhojbnecaaGreat
namespace Go.Proofs.YtncgbjhojbnecaaGreat
open Go Go.Am Go.Proofs Go.RowKit Go.Shelf Go.Off
open Nat renaming reduceAdd -> nA,reduceSub -> nS,reduceMul -> nM,reduceBEq -> nB
open Int renaming reduceToNat -> iT,reduceAdd -> iA,reduceSub -> iS,reduceMul -> iM,reduceNeg -> iN
attribute [local go_sem] Oper.semAt_some
def downs (len m:Nat):List (Fin len):=(List.finRange len).reverse.take m
theorem KH (len:Nat) (k:Nat) (hk:k < len):downs len (len - k) = downs len (len - (k + 1)) ++ [⟨k,hk⟩]:=by
 have e:len - k = (len - (k + 1)) + 1:=by omega
 unfold downs
 rw [e,List.take_add_one]
 congr 1
 have hlt:len - (k + 1) < ((List.finRange len).reverse).length:=by simp;omega
 rw [aA hlt]
 simp only [Option.toList_some,List.cons.injEq,and_true]
 rw [List.getElem_reverse]
 simp only [List.getElem_finRange,List.length_finRange]
 apply Fin.ext
 simp
 omega
theorem downs_len (len m:Nat) (h:m <= len):(downs len m).length = m:=by simp [downs];omega
theorem QK {w A B:World} {bad:Nat -> Prop} (k:RL w bad A B) {p:Addr} {v:Value} (hlt:p.block < w.heap.size) (hb:¬ bad p.block) (h:A.cell? p = PA v):B.cell? p = PA v:=by
 unfold World.cell? at h ⊢
 split at h
 ·rename_i cs t o hg
  rw [k.2 _ hlt hb _ _ _ hg]
  exact h
 ·cases h
set_option maxRecDepth 100000 in
set_option maxHeartbeats 2000000 in
theorem back1_in (F:Fence) (hF:F.fn 142) (hro:F.round = QA) (n:Nat) (hn:1 <= n) (l Bs os b off len cap:Nat) (w:World) (bad:Nat -> Prop) (f:Nat -> Int) (hlen:len <= 1000000000000) (hBsl:Bs < w.heap.size) (hBsn:¬ bad Bs) (hbl:b < w.heap.size) (hbn:¬ bad b) (J Jx:List (Fin len) -> World -> Prop)
  (hY:∀ pre (x:Fin len) W,J pre W -> pre.length < len -> YieldAt F (n - 1) Tryz.prog l #[.int .i64 (x.1:Int),.int .u32 (f x.1)] W fun e W' =>
   (e = .returned (.bool SA) /\ J (pre ++ [x]) W' /\ RL w bad W W') \/ (e = .returned (.bool TA) /\ Jx (pre ++ [x]) W'))
  (W:World) (hBs:W.cell? ⟨Bs,os,QA⟩ = PA (.slice (PA ⟨b,off,QA⟩) len cap)) (hc:∀ j,j < len -> W.cell? ⟨b,off + j,QA⟩ = PA (.int .u32 (f j))) (h0:J [] W) :
  CallsIn F n Tryz.prog 142 #[.func (.yield l) #[] #[],.pointer (PA ⟨Bs,os,QA⟩)] W fun e W'=>(∃ v,e = .returned v) /\
   ((∃ ys,ys = downs len len /\ J ys W') \/ (∃ pre,(∃ k,k <= len /\ pre = downs len k) /\ Jx pre W')):=by
 refine callsIn_of_wp Tryz.func142 rfl hF ?_ hro
 simp only [Tryz.ntmps142,List.size_toArray,oA,pA,nA,nS,Array.replicate_succ,Array.replicate_zero,List.push_toArray,List.append_toArray,qA,rA]
 gi_wp2
 gi_loopw [3] (fun i wr=>∃ k:Nat,k <= len /\ i = .int .i64 ((k:Int) - 1) /\ J (downs len (len - k)) wr /\ RL w bad W wr)
  (fun i _=>((intOf i) + 1).toNat)
 case atStart=>exact ⟨len,EA _,rfl,by simpa [downs] using h0,⟨EA _,fun _ _ _ _ _ _ h=>h⟩⟩
 case round =>
  obtain ⟨k,hk,rfl,hJs,hnx⟩:=hrel
  cases k with
  | zero =>
   gi_wp2
   go_end0
   exact ⟨⟨_,rfl⟩,.inl ⟨_,rfl,by simpa using hJs⟩⟩
  | succ k =>
   have hcb:wr.cell? ⟨Bs,os,QA⟩ = PA (.slice (PA ⟨b,off,QA⟩) len cap):=QK hnx hBsl hBsn hBs
   have hcx:wr.cell? ⟨b,off + k,QA⟩ = PA (.int .u32 (f k)):=QK hnx hbl hbn (hc k (by omega))
   obtain ⟨fn,tmps,assign,body,hy,hR⟩:=hY _ ⟨k,by omega⟩ wr hJs (by rw [downs_len _ _ (by omega)];omega)
   dsimp only at hy
   have e1:((k + 1:Nat):Int) - 1 = (k:Int):=by omega
   rw [e1]
   gi_wp2
   refine hR.mono ?_
   rintro e W3 (⟨rfl,hJ3,hk3⟩ | ⟨rfl,hJx3⟩)
   ·gi_wp2
    go_roundw
    case rel=>exact ⟨k,by omega,rfl,by rw [KH len k (by omega)];exact hJ3,⟨GA hnx.1 hk3.1,fun g hg hb cs t o h=>hk3.2 g hg hb cs t o (hnx.2 g hg hb cs t o h)⟩⟩
    case measure=>simp [intOf]
   ·gi_wp2
    refine bodyPost_ret (results_none rfl _ _ _) rfl ?_
    exact ⟨⟨_,rfl⟩,.inr ⟨_,⟨len - k,by omega,(KH len k (by omega)).symm⟩,hJx3⟩⟩
set_option maxRecDepth 100000 in
set_option maxHeartbeats 2000000 in
theorem RM (F:Fence) (hF:F.fn 142) (hro:F.round = QA) (n:Nat) (l Bs os:Nat) (p:Option Addr) (J:List (Fin 0) -> World -> Prop) (W:World) (hBs:W.cell? ⟨Bs,os,QA⟩ = PA (.slice p 0 0)) (h0:J [] W) :
  CallsIn F n Tryz.prog 142 #[.func (.yield l) #[] #[],.pointer (PA ⟨Bs,os,QA⟩)] W fun e W'=>(∃ v,e = .returned v) /\ J [] W':=by
 refine callsIn_of_wp Tryz.func142 rfl hF ?_ hro
 simp only [Tryz.ntmps142,List.size_toArray,oA,pA,nA,nS,Array.replicate_succ,Array.replicate_zero,List.push_toArray,List.append_toArray,qA,rA]
 gi_wp2
 gi_loopw [3] (fun i wr=>i = .int .i64 (-1) /\ J [] wr) (fun _ _=>0)
 case atStart=>exact ⟨rfl,h0⟩
 case round =>
  obtain ⟨rfl,hJs⟩:=hrel
  gi_wp2
  go_end0
  exact ⟨⟨_,rfl⟩,hJs⟩
theorem eT {P:Program} {rd:Option Nat} {n:Nat} {f:FuncId} {args:Array Value} {w:World} {R:Ending -> World -> Prop} (h:CallsIn (Wd rd) n P f args w R) (m:Nat):CallsIn (Wd rd) m P f args w R :=
 ⟨h.1,fun cs _=>h.2 cs (fun d hd=>by cases hd)⟩
theorem cS {P:Program} {rd:Option Nat} {n l:Nat} {args:Array Value} {w:World} {R:Ending -> World -> Prop} (h:YieldAt (Wd rd) n P l args w R) (m:Nat):YieldAt (Wd rd) m P l args w R:=by
 obtain ⟨fn,tmps,assign,body,h1,h2,h3⟩:=h
 exact ⟨fn,tmps,assign,body,h1,h2,fun c cs _=>h3 c cs (fun d hd=>by cases hd)⟩
abbrev aU32 (n:Int):AV:=.one (.c (.val (.int .u32 n)))
abbrev backAV (l:List UInt32) (k:Fin l.length):List AV:=[aI (k.1:Int),aU32 ((l[k.1]'k.2).toNat:Int)]
theorem IN (a:iG) (hlen:(UA a).length <= 1000000000000) :
  oT Tryz.prog 142 [.iptr [nr a]] (backAV (UA a)) 2 (fun xs=>xs = downs (UA a).length (UA a).length) (fun pre=>∃ k,k <= (UA a).length /\ pre = downs (UA a).length k) (UA a).length:=by
 refine ⟨fun a w=>Tryz.call142 a w,fun k=>rfl,fun w bad vs hbad hvs=>?_⟩
 obtain ⟨v0,rfl,hv0⟩:∃ v0,vs = [v0] /\ VR w bad [] bE (.iptr [nr a]) v0:=by
  match vs,hvs with
  | [v0],hvs=>exact ⟨v0,rfl,hvs.2 0 _ _ rfl rfl⟩
  | [],hvs=>exact absurd hvs.1 (by simp)
  | a :: b :: c,hvs=>exact absurd hvs.1 (by simp)
 refine ⟨fun k=>[.int .i64 (k.1:Int),.int .u32 ((((UA a)[k.1]'k.2).toNat:Nat):Int)],fun k=>.cons (.one _ _ (.c _ _ (.val _ rfl))) (.cons (.one _ _ (.c _ _ (.val _ rfl))) .nil),fun n=>?_⟩
 cases hv0 with
 | iptr _ Bs os f hBn hBl hc hv =>
  have hcell:=hc 0 (nr a) rfl
  have hcr:=hv 0 (nr a) rfl
  generalize f 0 = sv at hcell hcr
  clear hc hv
  intro ll J Jx W hW hJ hJx hY h0
  have hcW:W.cell? ⟨Bs,os,QA⟩ = PA sv:=(hW.cell (p:=⟨Bs,os,QA⟩) hBl).trans hcell
  refine CallsIn.mono (R:=fun e W'=>(∃ v,e = .returned v) /\ ((∃ ys,ys = downs (UA a).length (UA a).length /\ J ys W') \/ (∃ pre,(∃ k,k <= (UA a).length /\ pre = downs (UA a).length k) /\ Jx pre W'))) ?_ (fun e W' h=>h)
  cases a with
  | none =>
   cases hcr
   refine (RM (Wd QA) trivial rfl n ll Bs os QA J W hcW h0).mono ?_
   rintro e W' ⟨he,hj⟩
   exact ⟨he,.inl ⟨_,rfl,hj⟩⟩
  | some l =>
   change CR w bad (.sl 1 (l.map fU)) sv at hcr
   generalize hlm:l.map fU = lm at hcr
   cases hcr with
   | emp _ ad =>
    obtain rfl:l = []:=by simpa using hlm
    refine (RM (Wd QA) trivial rfl n ll Bs os (PA ad) J W hcW h0).mono ?_
    rintro e W' ⟨he,hj⟩
    exact ⟨he,.inl ⟨_,rfl,hj⟩⟩
   | sl _ _ g off cap ff hcap hbadg hltg hrow hcs hvs' =>
    subst hlm
    have hff:∀ j (hj:j < l.length),ff j 0 = .int .u32 ((KC l j:Nat):Int):=fun j hj=>by
     have h1:(l.map fU)[j]? = PA [CV.val (.int .u32 ((KC l j:Nat):Int))]:=by simp [fU,hj,KC]
     have:=hvs' j 0 _ _ h1 rfl
     generalize ff j 0 = u at this
     cases this
     rfl
    rw [eA] at hcW hcs
    have hlt:∀ j,j < l.length -> W.cell? ⟨g,off + j,QA⟩ = PA (.int .u32 ((KC l j:Nat):Int)):=fun j hj=>by
     have h1:=hcs j 0 hj (by omega)
     rw [Nat.mul_one,Nat.add_zero,hff j hj] at h1
     exact (hW.cell (p:=⟨g,off + j,QA⟩) hltg).trans h1
    refine eT (back1_in (Wd QA) trivial rfl (n + 1) (by omega) ll Bs os g off l.length cap w bad (fun j=>((KC l j:Nat):Int)) hlen hBl hBn hltg hbadg J Jx (fun pre x W1 hj hl=>?_) W hcW hlt h0) n
    have h1:=cS (hY pre x W1 hj hl) n
    have h2:KC l x.1 = (l[x.1]'x.2).toNat:=iE _ _ _
    simp only [h2]
    exact h1
abbrev c123:CC:=(.seq (.reg [(oD 1 (.box 44 (tP 0))),(oD 2 (.mv (.const .nilFunc)))]) (.seq (.reg [(oD 3 (.mkfn 142 [(tP 1)])),(mV 2 3)]) .ret))
theorem cc123:ZA Tryz.prog [] (Tryz.f123.body.getD .skip) = PA c123:=by kernel_rfl
theorem body123:Tryz.f123.body = PA (Tryz.f123.body.getD .skip):=rfl
theorem PL (x:CV):YA Tryz.prog 123 [.one (.c x)] (.ret (.one (.fn 142 [.iptr [x]]))):=by
 refine WA (rs:=[(RV.tmp 2)]) Tryz.func123 (fun a w=>Tryz.call123 a w) body123 cc123 (by kernel_rfl) ?_
 rw [Tryz.ntmps123]
 simp only [pC,nA,nS]
 repeat (first | (with_reducible first | refine W8 ?_ | refine VA rfl ?_) | ((with_reducible refine X8 fun K hK=>?_);simp (disch:=first | omega | simp only [sB];omega) only [qB,reduceIte,reduceCtorEq,iT,nA,nS,nM,iA,iS,iM,iN,fU];subst hK))
 exact ⟨_,rfl,rfl⟩
theorem HS {n m:Nat} (hm:m <= n) (k:Fin n):k ∈ downs n m ↔ n - m <= k.1:=by
 induction m with
 | zero=>simp [downs]
 | succ m ih =>
  have h1:n - (n - (m + 1)) = m + 1:=by omega
  have h2:n - (n - (m + 1) + 1) = m:=by omega
  have:=KH n (n - (m + 1)) (by omega)
  rw [h1,h2] at this
  rw [this,List.mem_append,ih (by omega),List.mem_singleton]
  constructor
  ·rintro (h | h)
   ·omega
   ·rw [h];exact EA _
  ·intro h
   by_cases he:k.1 = n - (m + 1)
   ·exact .inr (Fin.ext he)
   ·exact .inl (by omega)
theorem aO {β:Type} (n:Nat) (f:β -> Fin n -> β) (P:Nat -> β -> Prop) (b0:β) (h0:P n b0) (hs:∀ (k:Fin n) (b:β),P (k.1 + 1) b -> P k.1 (f b k)):P 0 ((downs n n).foldl f b0):=by
 have key:∀ m,m <= n -> P (n - m) ((downs n m).foldl f b0):=by
  intro m
  induction m with
  | zero=>intro _;simpa [downs] using h0
  | succ m ih =>
   intro hm
   have h1:n - (n - (m + 1)) = m + 1:=by omega
   have h2:n - (n - (m + 1) + 1) = m:=by omega
   have e:=KH n (n - (m + 1)) (by omega)
   rw [h1,h2] at e
   rw [e,List.foldl_append]
   exact hs ⟨n - (m + 1),by omega⟩ _ (by have:=ih (by omega);rwa [show n - (m + 1) + 1 = n - m by omega])
 simpa using key n (EA _)
theorem yieldAt_alt {P:Program} {rd:Option Nat} {n l:Nat} {args:Array Value} {W:World} {A B:World -> Prop}
  (h:YieldAt (Wd rd) n P l args W fun e W'=>(e = .returned (.bool SA) /\ A W') \/ (e = .returned (.bool TA) /\ B W')) (m:Nat) :
  YieldAt (Wd rd) m P l args W fun e W'=>∃ b,e = .returned (.bool b) /\ (b = SA -> A W') /\ (b = TA -> B W') :=
 (cS h m).mono fun e W' hx=>by
  rcases hx with ⟨rfl,hA⟩ | ⟨rfl,hB⟩
  ·exact ⟨SA,rfl,⟨fun _=>hA,fun h=>by cases h⟩⟩
  ·exact ⟨TA,rfl,⟨fun h=>absurd h (by simp),fun _=>hB⟩⟩
end Go.Proofs.YtncgbjhojbnecaaGreat
namespace Go.Proofs.YtncgbjhojbnecaaGreat
open Go Go.Am Go.Proofs Go.Off
open Nat renaming reduceAdd -> nA,reduceSub -> nS,reduceMul -> nM,reduceBEq -> nB
open Int renaming reduceToNat -> iT,reduceAdd -> iA,reduceSub -> iS,reduceMul -> iM,reduceNeg -> iN
def u32 (z:Int):UInt32:=UInt32.ofNat (z % 4294967296).toNat
theorem YG (n:Nat):(u32 (n:Int)).toNat = n % 4294967296:=by
 unfold u32
 rw [UInt32.toNat_ofNat']
 omega
theorem RH (z:Int):IntKind.u32.wrap z = ((u32 z).toNat:Int):=by
 unfold u32
 rw [IntKind.wrap_u32,UInt32.toNat_ofNat']
 omega
theorem setU (l:List UInt32) (i:Nat) (x:UInt32):(wB fU l).set i [Cell.c (.val (.int .u32 (x.toNat:Int)))] = wB fU (l.set i x):=SE l i x
theorem repU (n:Nat):jA n [Cell.c (.val (.int .u32 0))] = wB fU (jA n 0):=by rw [TE];rfl
theorem shr32 (z:Int) (h:0 <= z):cN .u64 z 32 = z / 4294967296:=shrI_u64 (m:=4294967296) h (by decide) (by decide)
theorem shr63 (z:Int) (h:0 <= z):cN .u64 z 63 = z / 9223372036854775808:=shrI_u64 (m:=9223372036854775808) h (by decide) (by decide)
abbrev c52:CC:=(.seq (.reg [(oD 2 (.mv nC))]) (.seq (.reg [(mV 3 0),(oD 4 (.conv .u32 (tP 3))),(mV 5 0),(oD 6 (.bin .shr (tP 5) (.const (.int .u64 (32))))),(oD 7 (.conv .u32 (tP 6))),(oD 8 (.mkrow 140 1 [(tP 4),(tP 7)])),(oD 9 (.callf (.func 92) [(tP 8)])),(mV 2 9)]) .ret))
theorem cc52:ZA Tryz.prog [] (Tryz.f52.body.getD .skip) = PA c52:=by kernel_rfl
theorem body52:Tryz.f52.body = PA (Tryz.f52.body.getD .skip):=rfl
theorem of_C (n:Nat) (hn:n < 18446744073709551616):YA Tryz.prog 52 [aU n] (.ret (aN (iC n))):=by
 refine WA (rs:=[(RV.tmp 2)]) Tryz.func52 (fun a w=>Tryz.call52 a w) body52 cc52 (by kernel_rfl) ?_
 rw [Tryz.ntmps52]
 simp only [pC,nA,nS]
 repeat (first | (with_reducible first | refine W8 ?_ | refine VA rfl ?_) | ((with_reducible refine X8 fun K hK=>?_);simp (disch:=first | omega | simp only [sB];omega) only [qB,reduceIte,reduceCtorEq,iT,nA,nS,nM,iA,iS,iM,iN,fU,RH,shr32];subst hK))
 have e:[[Cell.c (CV.val (Value.int IntKind.u32 ((u32 (n:Int)).toNat:Int)))],[Cell.c (CV.val (Value.int IntKind.u32 ((u32 ((n:Int) / 4294967296)).toNat:Int)))]] = wB fU [u32 (n:Int),u32 ((n:Int) / 4294967296)]:=rfl
 rw [e]
 have hv:val [u32 (n:Int),u32 ((n:Int) / 4294967296)] = n:=by
  have h1:=YG n
  have h2:=YG (n / 4294967296)
  rw [Int.natCast_ediv] at h2
  simp only [val,h1]
  have h2':(u32 ((n:Int) / 4294967296)).toNat = n / 4294967296 % 4294967296:=h2
  rw [h2']
  omega
 have ht:=jF (PA [u32 (n:Int),u32 ((n:Int) / 4294967296)]) (by simp [UA])
 rw [Option.map_some,hv] at ht
 refine zqR (ht) ?_
 repeat (first | (with_reducible first | refine W8 ?_ | refine VA rfl ?_) | ((with_reducible refine X8 fun K hK=>?_);simp (disch:=first | omega | simp only [sB];omega) only [qB,reduceIte,reduceCtorEq,iT,nA,nS,nM,iA,iS,iM,iN,fU];subst hK))
 exact ⟨_,rfl,JD.ret_c⟩
abbrev c93_k1:CC:=(.seq (.reg [(mV 37 5),(oD 38 (.callf (.func 92) [(tP 37)])),(mV 4 38)]) .ret)
abbrev c93_b1:CC:=(.seq (.reg [(bB 18 .lss 17 16)]) (.seq (.cond (tP 18) .skip (.exit 0)) (.seq (.block 1 (.seq (.reg [(mV 19 17),(mV 7 19)]) (.seq (.reg [(mV 20 6),(mV 21 0),(mV 22 7),(oD 23 (.callf (.func 128) [(tP 21),(tP 22)])),(mV 24 1),(mV 25 7),(oD 26 (.callf (.func 128) [(tP 24),(tP 25)])),(bB 27 .add 23 26),(bB 28 .add 20 27),(mV 6 28)]) (.seq (.reg [(mV 29 5),(mV 30 7),(mV 31 6),(oD 32 (.conv .u32 (tP 31))),(xA 33 1 29 30),(sT 1 33 32)]) (.reg [(mV 34 6),(oD 35 (.bin .shr (tP 34) (.const (.int .u64 (32))))),(mV 6 35)]))))) (.reg [(bC 36 .add 17 1),(mV 17 36)]))))
abbrev c93:CC:=(.seq (.reg [(oD 4 (.mv nC))]) (.seq (.reg [(mV 8 0),(nL 9 8),(mV 10 1),(nL 11 10),(oD 12 (.mm SA (tP 9) (tP 11))),(bC 13 .add 12 1),(oD 14 (.make 140 1 4 [(.int .u32 (0))] (tP 13) (tP 13))),(mV 5 14)]) (.seq (.reg [(oD 6 (.mv (.const (.int .u64 (0)))))]) (.seq (.seq (.reg [(mV 15 5),(nL 16 15),(mI 17 0)]) (.block 0 (.loop c93_b1))) c93_k1))))
theorem cc93:ZA Tryz.prog [] (Tryz.f93.body.getD .skip) = PA c93:=by kernel_rfl
theorem body93:Tryz.f93.body = PA (Tryz.f93.body.getD .skip):=rfl
theorem add_C (a b:iG) (ha:(UA a).length <= 1000000000) (hb:(UA b).length <= 1000000000):YA Tryz.prog 93 [aN a,aN b] (.ret (aN (iC (a.val + b.val)))):=by
 refine WA (rs:=[(RV.tmp 4)]) Tryz.func93 (fun a w=>Tryz.call93 a w) body93 cc93 (by kernel_rfl) ?_
 rw [Tryz.ntmps93]
 simp only [pC,nA,nS]
 have hm:max ((UA a).length:Int) ((UA b).length:Int) + 1 = ((max (UA a).length (UA b).length + 1:Nat):Int):=by omega
 have hle:max (UA a).length (UA b).length + 1 <= 1000000001:=by omega
 have hga:(UA a).length < max (UA a).length (UA b).length + 1:=by omega
 have hgb:(UA b).length < max (UA a).length (UA b).length + 1:=by omega
 generalize max (UA a).length (UA b).length + 1 = m at *
 repeat (first | (with_reducible first | refine W8 ?_ | refine VA rfl ?_) | ((with_reducible refine X8 fun K hK=>?_);simp (disch:=first | omega | simp only [sB];omega) only [qB,reduceIte,reduceCtorEq,iT,nA,nS,nM,iA,iS,iM,iN,fU,hm,repU,tA];subst hK))
 refine xB (fun (zz:Nat × (List UInt32) × Nat)=>⟨(aN a :: aN b :: .junk :: .junk :: .one (.c (.val (.slice QA 0 0))) :: .one (.own 0 0) :: aU zz.2.2 :: J8 (.junk :: aI m :: aI zz.1 :: L8 (J4 (.junk :: [])))),[⟨0,140,1,wB fU zz.2.1,SA,SA⟩]⟩) (fun (zz:Nat × (List UInt32) × Nat)=>zz.1 <= m /\ zz.2.1.length = m /\ zz.2.2 <= 1 /\ VN zz.2.1 zz.1 + W ^ zz.1 * zz.2.2 = VN (UA a) zz.1 + VN (UA b) zz.1) (fun (zz:Nat × (List UInt32) × Nat)=>m - zz.1) (0,jA m 0,0) ?hI1 (TB.headA (fN 1) [SA,SA,TA,TA,SA,SA,SA,TA,TA,TA,TA,TA,TA,TA,TA,TA,SA,SA]) ?hB1
 ·dsimp only;exact ⟨by omega,tA,by omega,by simp [nK]⟩
 rintro ⟨k,out,c⟩ ⟨hk,hlen,hc,hinv⟩
 dsimp only at hk hlen hc hinv
 by_cases hkm:k = m
 ·have ht:=jF (PA out) (by show out.length <= _;omega)
  rw [Option.map_some] at ht
  repeat (first | (with_reducible first | refine W8 ?_ | refine VA rfl ?_) | ((with_reducible refine X8 fun K hK=>?_);simp (disch:=first | omega | simp only [sB];omega) only [qB,reduceIte,reduceCtorEq,iT,nA,nS,nM,iA,iS,iM,iN,fU];subst hK) | refine zqR (ht) ?_)
  refine ⟨_,rfl,?_⟩
  subst hkm
  have h1:=low_lt (UA a) (k - 1)
  have h2:=low_lt (UA b) (k - 1)
  rw [eH (UA a) (by omega)] at h1 hinv
  rw [eH (UA b) (by omega)] at h2 hinv
  rw [eH out (by omega)] at hinv
  have:=add_end (by omega) h1 h2 hinv
  rw [this]
  exact JD.ret_c
 ·have h1:=dG (UA a) k
  have h2:=dG (UA b) k
  repeat (first | (with_reducible first | refine W8 ?_ | refine VA rfl ?_) | ((with_reducible refine X8 fun K hK=>?_);simp (disch:=first | omega | simp only [sB];omega) only [qB,reduceIte,reduceCtorEq,iT,nA,nS,nM,iA,iS,iM,iN,fU,RH,shr32,setU];subst hK) | (apply aD (at_C a k (by omega)) rfl;(case hcl=>(simp only [oE,St.ev,yB,NE];(repeat (first | exact kB | (apply gB;(first | (refine CB rfl (by decide)) | (refine BB rfl (by decide) ?_;assumption) | rfl))));done));(case hf=>rfl)) | (apply aD (at_C b k (by omega)) rfl;(case hcl=>(simp only [oE,St.ev,yB,NE];(repeat (first | exact kB | (apply gB;(first | (refine CB rfl (by decide)) | (refine BB rfl (by decide) ?_;assumption) | rfl))));done));(case hf=>rfl)))
  refine ⟨(k + 1,out.set k (u32 ((c:Int) + (KC (UA a) k + KC (UA b) k))),(c + (KC (UA a) k + KC (UA b) k)) / 4294967296),?hI2,?hM2,TB.headA (fN 1) [SA,SA,TA,TA,SA,SA,SA,TA,TA,TA,TA,TA,TA,TA,TA,TA,SA,SA]⟩
  ·dsimp only
   refine ⟨by omega,by rw [List.length_set];exact hlen,by omega,?_⟩
   have e:=YG (c + (KC (UA a) k + KC (UA b) k))
   simp only [NA] at e
   rw [low_set _ _ (by omega),e,BE,BE]
   exact add_step _ _ hinv
  ·dsimp only;omega
end Go.Proofs.YtncgbjhojbnecaaGreat
namespace Go.Proofs.YtncgbjhojbnecaaGreat
open Go Go.Am Go.Proofs Go.Off
open Nat renaming reduceAdd -> nA,reduceSub -> nS,reduceMul -> nM,reduceBEq -> nB
open Int renaming reduceToNat -> iT,reduceAdd -> iA,reduceSub -> iS,reduceMul -> iM,reduceNeg -> iN
def KD (a:iG):iG:=a.map fun l=>DB (val l)
theorem SF (a:iG):UA (KD a) = DB a.val:=by
 cases a with
 | none=>exact zC.symm
 | some l=>rfl
theorem NC (a:iG):(DB a.val).length <= (UA a).length:=fC (IE (UA a))
abbrev c98_k1:CC:=(.seq (.reg [⟨QA,QA,.store 1 (tP 4) (.const (.int .i64 (0)))⟩]) .ret)
abbrev c98_b1:CC:=(.block 1 (.block 2 (.seq (.reg [(mV 28 6),(lF 29 1 3),(mV 30 5),(xA 31 1 29 30),(lF 32 1 31),(bB 33 .lss 28 32),(mV 27 33)]) (.cond (tP 27) (.seq (.reg [⟨QA,QA,.store 1 (tP 4) (.const (.int .i64 (-1)))⟩]) .ret) (.seq (.reg [(mV 35 6),(lF 36 1 3),(mV 37 5),(xA 38 1 36 37),(lF 39 1 38),(bB 40 .gtr 35 39),(mV 34 40)]) (.cond (tP 34) (.seq (.reg [⟨QA,QA,.store 1 (tP 4) (.const (.int .i64 (1)))⟩]) .ret) .skip))))))
abbrev c98:CC:=(.seq (.reg [(oD 3 (.box 44 (tP 1))),(oD 4 (.new 3 [(.int .i64 (0))]))]) (.seq (.reg [(mV 7 0),(oD 8 (.callf (.func 92) [(tP 7)])),(lF 9 1 3),(oD 10 (.callf (.func 92) [(tP 9)])),(mV 0 8),(sT 1 3 10)]) (.seq (.seq (.reg [(mV 11 0),(nL 12 11),(lF 13 1 3),(nL 14 13),(bB 15 .neq 12 14)]) (.cond (tP 15) (.seq (.reg [(mV 16 0),(nL 17 16),(lF 18 1 3),(nL 19 18),(bB 20 .sub 17 19),(oD 21 (.mm SA (tP 20) (.const (.int .i64 (-1))))),(oD 22 (.mm TA (tP 21) (.const (.int .i64 (1))))),(sT 1 4 22)]) .ret) .skip)) (.seq (.seq (.reg [(mV 23 0),(oD 24 (.callf (.func 123) [(tP 23)]))]) (.block 0 (.rf (tP 24) [25,26] [(5,25),(6,26)] c98_b1))) c98_k1))))
theorem cc98:ZA Tryz.prog [] (Tryz.f98.body.getD .skip) = PA c98:=by kernel_rfl
theorem body98:Tryz.f98.body = PA (Tryz.f98.body.getD .skip):=rfl
theorem uH (a b:iG) (ha:(UA a).length <= 1000000000) (hb:(UA b).length <= 1000000000):YA Tryz.prog 98 [aN a,aN b] (.ret (aI (ID a.val b.val))):=by
 refine WA (rs:=[(RV.cell 4 1 TA)]) Tryz.func98 (fun a w=>Tryz.call98 a w) body98 cc98 (by kernel_rfl) ?_
 rw [Tryz.ntmps98]
 simp only [pC,nA,nS]
 have hta:=jF a (by omega)
 have htb:=jF b (by omega)
 change YA _ _ _ (.ret (aN (KD a))) at hta
 change YA _ _ _ (.ret (aN (KD b))) at htb
 have hsa:=SF a
 have hsb:=SF b
 have hla:=NC a
 have hlb:=NC b
 rw [<- hsa] at hla
 rw [<- hsb] at hlb
 generalize KD a = s at *
 generalize KD b = t at *
 by_cases hl:(UA s).length = (UA t).length
 ·repeat (first | (with_reducible first | refine W8 ?_ | refine VA rfl ?_) | ((with_reducible refine X8 fun K hK=>?_);simp (disch:=first | omega | simp only [sB];omega) only [qB,reduceIte,reduceCtorEq,iT,nA,nS,nM,iA,iS,iM,iN,fU];subst hK) | refine KB (hta) rfl rfl rfl ?_ | refine KB (htb) rfl rfl rfl ?_ | refine KB (PL _) rfl rfl rfl ?_)
  refine awp_rf rfl (by simp [wE]) (IN s (by omega)) (fun pre h=>h = [⟨0,44,1,[[.c (nr t)]],SA,SA⟩,⟨0,3,1,[[.c (.val (.int .i64 0))]],SA,SA⟩] /\ ∀ k ∈ pre,KC (UA s) k.1 = KC (UA t) k.1) ⟨rfl,fun k hk=>by cases hk⟩
   (fun pre e h=>e = .ret /\ ∃ pre0 k,pre = pre0 ++ [k] /\ (∀ j ∈ pre0,KC (UA s) j.1 = KC (UA t) j.1) /\ KC (UA s) k.1 ≠ KC (UA t) k.1 /\ h = [⟨0,44,1,[[.c (nr t)]],SA,SA⟩,⟨0,3,1,[[.c (.val (.int .i64 (if KC (UA s) k.1 < KC (UA t) k.1 then -1 else 1)))]],SA,SA⟩]) ?_ ?_ ?_
  ·rintro pre k h hlen ⟨rfl,hinv⟩
   have hk:=k.2
   have hk2:k.1 < (UA t).length:=by omega
   rw [show backAV (UA s) k = [aI (k.1:Int),aU32 (KC (UA s) k.1:Nat)] from by rw [iE _ _ hk]]
   have hd:=iE (UA t) k.1 hk2
   simp only [mvT,VG,rnd,nA]
   by_cases hlt:KC (UA s) k.1 < KC (UA t) k.1
   ·repeat (first | (with_reducible first | refine W8 ?_ | refine VA rfl ?_) | ((with_reducible refine X8 fun K hK=>?_);simp (disch:=first | omega | simp only [sB];omega) only [qB,reduceIte,reduceCtorEq,iT,nA,nS,nM,iA,iS,iM,iN,fU,<- hd];subst hK))
    exact ⟨rfl,pre,k,rfl,hinv,by omega,by rw [if_pos hlt]⟩
   ·by_cases hgt:KC (UA t) k.1 < KC (UA s) k.1
    ·repeat (first | (with_reducible first | refine W8 ?_ | refine VA rfl ?_) | ((with_reducible refine X8 fun K hK=>?_);simp (disch:=first | omega | simp only [sB];omega) only [qB,reduceIte,reduceCtorEq,iT,nA,nS,nM,iA,iS,iM,iN,fU,<- hd];subst hK))
     exact ⟨rfl,pre,k,rfl,hinv,by omega,by rw [if_neg hlt]⟩
    ·repeat (first | (with_reducible first | refine W8 ?_ | refine VA rfl ?_) | ((with_reducible refine X8 fun K hK=>?_);simp (disch:=first | omega | simp only [sB];omega) only [qB,reduceIte,reduceCtorEq,iT,nA,nS,nM,iA,iS,iM,iN,fU,<- hd];subst hK))
     refine ⟨_,⟨rfl,?hI1⟩,_,TB.head (EA _) [] rfl ?hH1⟩
     case hH1=>first | (simp (disch:=omega) only [pD,IB,lB,XA,clean1,uB,reduceIte,iS,iA,iN];done) | rfl
     intro j hj
     rcases List.mem_append.1 hj with hj | hj
     ·exact hinv j hj
     ·rw [List.mem_singleton.1 hj];omega
  ·rintro xs h rfl ⟨rfl,hinv⟩
   repeat (first | (with_reducible first | refine W8 ?_ | refine VA rfl ?_) | ((with_reducible refine X8 fun K hK=>?_);simp (disch:=first | omega | simp only [sB];omega) only [qB,reduceIte,reduceCtorEq,iT,nA,nS,nM,iA,iS,iM,iN,fU];subst hK))
   refine ⟨_,rfl,?_⟩
   have he:UA s = UA t:=cmp_all hl fun j=>by
    by_cases hj:j < (UA s).length
    ·exact hinv ⟨j,hj⟩ ((HS (EA _) _).2 (by omega))
    ·simp only [KC,hj,show ¬ j < (UA t).length from by omega,dif_neg,not_false_eq_true]
   have hv:a.val = b.val:=digits_inj (by rw [<- hsa,<- hsb,he])
   rw [show ID a.val b.val = 0 from by unfold ID;simp [hv]]
   exact JD.ret_c
  ·rintro e pre h ⟨m,hm,rfl⟩ ⟨rfl,pre0,k,hpre,hall,hne,rfl⟩
   repeat (first | (with_reducible first | refine W8 ?_ | refine VA rfl ?_) | ((with_reducible refine X8 fun K hK=>?_);simp (disch:=first | omega | simp only [sB];omega) only [qB,reduceIte,reduceCtorEq,iT,nA,nS,nM,iA,iS,iM,iN,fU];subst hK))
   refine ⟨_,rfl,?_⟩
   have hm0:m ≠ 0:=fun e=>by subst e;simp [downs] at hpre
   have hk:=k.2
   have e1:=KH (UA s).length ((UA s).length - m) (by omega)
   rw [show (UA s).length - ((UA s).length - m) = m by omega,show (UA s).length - ((UA s).length - m + 1) = m - 1 by omega] at e1
   rw [e1] at hpre
   obtain ⟨hp1,hp2⟩:=List.append_inj' hpre rfl
   simp only [List.cons.injEq,and_true] at hp2
   have hkm:k.1 = (UA s).length - m:=by rw [<- hp2]
   have hab:∀ j,k.1 < j -> KC (UA s) j = KC (UA t) j:=fun j hj=>by
    by_cases hjl:j < (UA s).length
    ·refine hall ⟨j,hjl⟩ ?_
     rw [<- hp1,HS (by omega)]
     show _ <= j
     omega
    ·simp only [KC,hjl,show ¬ j < (UA t).length from by omega,dif_neg,not_false_eq_true]
   have hva:val (UA s) = a.val:=by rw [hsa,FC]
   have hvb:val (UA t) = b.val:=by rw [hsb,FC]
   by_cases hlt:KC (UA s) k.1 < KC (UA t) k.1
   ·have:=cmp_at hl k.1 hk hab hlt
    rw [hva,hvb] at this
    rw [if_pos hlt,show ID a.val b.val = -1 from by unfold ID;rw [if_pos this]]
    exact JD.ret_c
   ·have:=cmp_at hl.symm k.1 (by omega) (fun j hj=>(hab j hj).symm) (by omega)
    rw [hva,hvb] at this
    rw [if_neg hlt,show ID a.val b.val = 1 from by unfold ID;rw [if_neg (by omega),if_pos this]]
    exact JD.ret_c
 ·repeat (first | (with_reducible first | refine W8 ?_ | refine VA rfl ?_) | ((with_reducible refine X8 fun K hK=>?_);simp (disch:=first | omega | simp only [sB];omega) only [qB,reduceIte,reduceCtorEq,iT,nA,nS,nM,iA,iS,iM,iN,fU,ite_min];subst hK) | refine KB (hta) rfl rfl rfl ?_ | refine KB (htb) rfl rfl rfl ?_)
  refine ⟨_,rfl,?_⟩
  have e:min (max (((UA s).length:Int) - ((UA t).length:Int)) (-1)) 1 = ID a.val b.val:=by
   by_cases h:(UA s).length < (UA t).length
   ·have:=cmp_len (x:=a.val) (y:=b.val) (by rw [<- hsa,<- hsb];exact h)
    unfold ID
    rw [if_pos this]
    omega
   ·have:=cmp_len (x:=b.val) (y:=a.val) (by rw [<- hsa,<- hsb];omega)
    unfold ID
    rw [if_neg (by omega),if_pos this]
    omega
  rw [<- e]
  exact JD.ret_c
theorem subw {x y c:Nat} (hx:x < 4294967296) (hy:y < 4294967296) (hc:c <= 1) (h:x < y + c):IntKind.u64.wrap (IntKind.u64.wrap ((x:Int) - y) - c) = 18446744073709551616 + (x:Int) - y - c:=by
 simp only [IntKind.wrap,IntKind.bits,IntKind.signed]
 simp
 omega
abbrev c94_k1:CC:=(.seq (.reg [(mV 39 6),(oD 40 (.callf (.func 92) [(tP 39)])),(mV 4 40),(mB 5 SA)]) .ret)
abbrev c94_b1:CC:=(.seq (.reg [(bB 20 .lss 19 18)]) (.seq (.cond (tP 20) .skip (.exit 0)) (.seq (.block 1 (.seq (.reg [(mV 21 19),(mV 8 21)]) (.seq (.reg [(mV 22 0),(mV 23 8),(oD 24 (.callf (.func 128) [(tP 22),(tP 23)])),(mV 25 1),(mV 26 8),(oD 27 (.callf (.func 128) [(tP 25),(tP 26)])),(bB 28 .sub 24 27),(mV 29 7),(bB 30 .sub 28 29),(mV 9 30)]) (.seq (.reg [(mV 31 6),(mV 32 8),(mV 33 9),(oD 34 (.conv .u32 (tP 33))),(xA 35 1 31 32),(sT 1 35 34)]) (.reg [(mV 36 9),(oD 37 (.bin .shr (tP 36) (.const (.int .u64 (63))))),(mV 7 37)]))))) (.reg [(bC 38 .add 19 1),(mV 19 38)]))))
abbrev c94:CC:=(.seq (.reg [(oD 4 (.mv nC)),(mB 5 TA)]) (.seq (.seq (.reg [(mV 10 0),(mV 11 1),(oD 12 (.callf (.func 98) [(tP 10),(tP 11)])),(bC 13 .lss 12 0)]) (.cond (tP 13) (.seq (.reg [(oD 4 (.mv nC)),(mB 5 TA)]) .ret) .skip)) (.seq (.reg [(mV 14 0),(nL 15 14),(oD 16 (.make 140 1 4 [(.int .u32 (0))] (tP 15) (tP 15))),(mV 6 16)]) (.seq (.reg [(oD 7 (.mv (.const (.int .u64 (0)))))]) (.seq (.seq (.reg [(mV 17 6),(nL 18 17),(mI 19 0)]) (.block 0 (.loop c94_b1))) c94_k1)))))
theorem cc94:ZA Tryz.prog [] (Tryz.f94.body.getD .skip) = PA c94:=by kernel_rfl
theorem body94:Tryz.f94.body = PA (Tryz.f94.body.getD .skip):=rfl
theorem sub_lt (a b:iG) (ha:(UA a).length <= 1000000000) (hb:(UA b).length <= 1000000000) (hlt:a.val < b.val):YA Tryz.prog 94 [aN a,aN b] (.ret (.tup [aN QA,aB TA])):=by
 refine WA (rs:=[(RV.tmp 4),(RV.tmp 5)]) Tryz.func94 (fun a w=>Tryz.call94 a w) body94 cc94 (by kernel_rfl) ?_
 rw [Tryz.ntmps94]
 simp only [pC,nA,nS]
 have hc:=uH a b ha hb
 rw [show ID a.val b.val = -1 from by unfold ID;rw [if_pos hlt]] at hc
 repeat (first | (with_reducible first | refine W8 ?_ | refine VA rfl ?_) | ((with_reducible refine X8 fun K hK=>?_);simp (disch:=first | omega | simp only [sB];omega) only [qB,reduceIte,reduceCtorEq,iT,nA,nS,nM,iA,iS,iM,iN,fU];subst hK) | refine zqF (hc) ?_)
 exact ⟨_,rfl,rfl⟩
theorem oP (a b:iG) (ha:(UA a).length <= 1000000000) (hb:(UA b).length <= 1000000000) (hge:b.val <= a.val):YA Tryz.prog 94 [aN a,aN b] (.ret (.tup [aN (iC (a.val - b.val)),aB SA])):=by
 refine WA (rs:=[(RV.tmp 4),(RV.tmp 5)]) Tryz.func94 (fun a w=>Tryz.call94 a w) body94 cc94 (by kernel_rfl) ?_
 rw [Tryz.ntmps94]
 simp only [pC,nA,nS]
 have hc:=uH a b ha hb
 have h0:¬ ID a.val b.val < 0:=by unfold ID;rw [if_neg (by omega)];split <;> omega
 generalize ID a.val b.val = z at hc h0
 have hva:=IE (UA a)
 generalize hm:(UA a).length = m at *
 repeat (first | (with_reducible first | refine W8 ?_ | refine VA rfl ?_) | ((with_reducible refine X8 fun K hK=>?_);simp (disch:=first | omega | simp only [sB];omega) only [qB,reduceIte,reduceCtorEq,iT,nA,nS,nM,iA,iS,iM,iN,fU,repU,hm,tA];subst hK) | refine zqF (hc) ?_)
 refine xB (fun (zz:Nat × (List UInt32) × Nat)=>⟨(aN a :: aN b :: .junk :: .junk :: .one (.c (.val (.slice QA 0 0))) :: aB TA :: .one (.own 0 0) :: aU zz.2.2 :: J8 (.junk :: .junk :: aI m :: aI zz.1 :: L8 (J4 (.junk :: [])))),[⟨0,140,1,wB fU zz.2.1,SA,SA⟩]⟩) (fun (zz:Nat × (List UInt32) × Nat)=>zz.1 <= m /\ zz.2.1.length = m /\ zz.2.2 <= 1 /\ VN (UA a) zz.1 + W ^ zz.1 * zz.2.2 = VN zz.2.1 zz.1 + VN (UA b) zz.1) (fun (zz:Nat × (List UInt32) × Nat)=>m - zz.1) (0,jA m 0,0) ?hI2 (TB.headA (fN 1) [SA,SA,TA,TA,SA,SA,SA,SA,TA,TA,TA,TA,TA,TA,TA,TA,TA,TA,SA,SA]) ?hB2
 ·dsimp only;exact ⟨by omega,tA,by omega,by simp [nK]⟩
 rintro ⟨k,out,c⟩ ⟨hk,hlen,hc1,hinv⟩
 dsimp only at hk hlen hc1 hinv
 by_cases hkm:k = m
 ·have ht:=jF (PA out) (by show out.length <= _;omega)
  rw [Option.map_some] at ht
  repeat (first | (with_reducible first | refine W8 ?_ | refine VA rfl ?_) | ((with_reducible refine X8 fun K hK=>?_);simp (disch:=first | omega | simp only [sB];omega) only [qB,reduceIte,reduceCtorEq,iT,nA,nS,nM,iA,iS,iM,iN,fU];subst hK) | refine zqR (ht) ?_)
  refine ⟨_,rfl,?_⟩
  subst hkm
  have hO:=low_lt out k
  rw [eH out (by omega)] at hinv hO
  rw [eH (UA a) (by omega),low_of_lt (l:=UA b) (m:=k) (Nat.lt_of_le_of_lt hge hva)] at hinv
  have:=sub_end hO hge hc1 hinv
  rw [this]
  exact rfl
 ·have h1:=dG (UA a) k
  have h2:=dG (UA b) k
  have hst:=sub_step (k:=k) (KC (UA a) k) (KC (UA b) k) h1 h2 hc1 hinv
  by_cases hb1:KC (UA a) k < KC (UA b) k + c
  ·have hw:=subw h1 h2 hc1 hb1
   repeat (first | (with_reducible first | refine W8 ?_ | refine VA rfl ?_) | ((with_reducible refine X8 fun K hK=>?_);simp (disch:=first | omega | simp only [sB];omega) only [qB,reduceIte,reduceCtorEq,iT,nA,nS,nM,iA,iS,iM,iN,fU,RH,shr63,setU,hw];subst hK) | (apply aD (at_C a k (by omega)) rfl;(case hcl=>(simp only [oE,St.ev,yB,NE];(repeat (first | exact kB | (apply gB;(first | (refine CB rfl (by decide)) | (refine BB rfl (by decide) ?_;assumption) | rfl))));done));(case hf=>rfl)) | (apply aD (at_C b k (by omega)) rfl;(case hcl=>(simp only [oE,St.ev,yB,NE];(repeat (first | exact kB | (apply gB;(first | (refine CB rfl (by decide)) | (refine BB rfl (by decide) ?_;assumption) | rfl))));done));(case hf=>rfl)))
   have hz:(18446744073709551616 + (KC (UA a) k:Int) - KC (UA b) k - c) / 9223372036854775808 = ((1:Nat):Int):=by omega
   refine ⟨(k + 1,out.set k (u32 (18446744073709551616 + (KC (UA a) k:Int) - KC (UA b) k - c)),1),?hI3,?hM3,TB.head (fN 1) [SA,SA,TA,TA,SA,SA,SA,SA,TA,TA,TA,TA,TA,TA,TA,TA,TA,TA,SA,SA] ?hT3 ?hH3⟩
   case hT3 | hH3=>first | (simp (disch:=omega) only [pD,IB,lB,XA,clean1,uB,reduceIte,iS,iA,iN,hz];done) | rfl
   ·dsimp only
    refine ⟨by omega,by rw [List.length_set];exact hlen,by omega,?_⟩
    have e:=YG (18446744073709551616 + KC (UA a) k - KC (UA b) k - c)
    rw [show ((18446744073709551616 + KC (UA a) k - KC (UA b) k - c:Nat):Int) = 18446744073709551616 + (KC (UA a) k:Int) - KC (UA b) k - c by omega] at e
    rw [low_set _ _ (by omega),e,BE,BE]
    rw [if_pos hb1,if_pos hb1] at hst
    rw [show (18446744073709551616 + KC (UA a) k - KC (UA b) k - c) % 4294967296 = 4294967296 + KC (UA a) k - KC (UA b) k - c by omega]
    exact hst
   ·dsimp only;omega
  ·repeat (first | (with_reducible first | refine W8 ?_ | refine VA rfl ?_) | ((with_reducible refine X8 fun K hK=>?_);simp (disch:=first | omega | simp only [sB];omega) only [qB,reduceIte,reduceCtorEq,iT,nA,nS,nM,iA,iS,iM,iN,fU,RH,shr63,setU];subst hK) | (apply aD (at_C a k (by omega)) rfl;(case hcl=>(simp only [oE,St.ev,yB,NE];(repeat (first | exact kB | (apply gB;(first | (refine CB rfl (by decide)) | (refine BB rfl (by decide) ?_;assumption) | rfl))));done));(case hf=>rfl)) | (apply aD (at_C b k (by omega)) rfl;(case hcl=>(simp only [oE,St.ev,yB,NE];(repeat (first | exact kB | (apply gB;(first | (refine CB rfl (by decide)) | (refine BB rfl (by decide) ?_;assumption) | rfl))));done));(case hf=>rfl)))
   have hz:((KC (UA a) k:Int) - KC (UA b) k - c) / 9223372036854775808 = ((0:Nat):Int):=by omega
   refine ⟨(k + 1,out.set k (u32 ((KC (UA a) k:Int) - KC (UA b) k - c)),0),?hI4,?hM4,TB.head (fN 1) [SA,SA,TA,TA,SA,SA,SA,SA,TA,TA,TA,TA,TA,TA,TA,TA,TA,TA,SA,SA] ?hT4 ?hH4⟩
   case hT4 | hH4=>first | (simp (disch:=omega) only [pD,IB,lB,XA,clean1,uB,reduceIte,iS,iA,iN,hz];done) | rfl
   ·dsimp only
    refine ⟨by omega,by rw [List.length_set];exact hlen,by omega,?_⟩
    have e:=YG (KC (UA a) k - KC (UA b) k - c)
    rw [show ((KC (UA a) k - KC (UA b) k - c:Nat):Int) = (KC (UA a) k:Int) - KC (UA b) k - c by omega] at e
    rw [low_set _ _ (by omega),e,BE,BE]
    rw [if_neg hb1,if_neg hb1] at hst
    rw [show (KC (UA a) k - KC (UA b) k - c) % 4294967296 = KC (UA a) k - KC (UA b) k - c by omega]
    exact hst
   ·dsimp only;omega
end Go.Proofs.YtncgbjhojbnecaaGreat
namespace Go.Proofs.YtncgbjhojbnecaaGreat
open Go Go.Am Go.Proofs Go.Off
open Nat renaming reduceAdd -> nA,reduceSub -> nS,reduceMul -> nM,reduceBEq -> nB
open Int renaming reduceToNat -> iT,reduceAdd -> iA,reduceSub -> iS,reduceMul -> iM,reduceNeg -> iN
abbrev c55_k1:CC:=(.seq (.reg [(mV 65 5),(oD 66 (.callf (.func 92) [(tP 65)])),(mV 4 66)]) .ret)
abbrev c55_k2:CC:=(.reg [(bC 64 .add 19 1),(mV 19 64)])
abbrev c55_k3:CC:=(.reg [(mV 56 5),(mV 57 6),(mV 58 1),(nL 59 58),(bB 60 .add 57 59),(mV 61 8),(oD 62 (.conv .u32 (tP 61))),(xA 63 1 56 60),(sT 1 63 62)])
abbrev c55_b1:CC:=(.seq (.reg [(bB 27 .lss 26 25)]) (.seq (.cond (tP 27) .skip (.exit 2)) (.seq (.block 3 (.seq (.reg [(mV 28 26),(xA 29 1 24 26),(lF 30 1 29),(mV 9 28),(mV 10 30)]) (.seq (.reg [(mV 31 8),(mV 32 7),(oD 33 (.conv .u64 (tP 32))),(mV 34 10),(oD 35 (.conv .u64 (tP 34))),(bB 36 .mul 33 35),(mV 37 5),(mV 38 6),(mV 39 9),(bB 40 .add 38 39),(xA 41 1 37 40),(lF 42 1 41),(oD 43 (.conv .u64 (tP 42))),(bB 44 .add 36 43),(bB 45 .add 31 44),(mV 8 45)]) (.seq (.reg [(mV 46 5),(mV 47 6),(mV 48 9),(bB 49 .add 47 48),(mV 50 8),(oD 51 (.conv .u32 (tP 50))),(xA 52 1 46 49),(sT 1 52 51)]) (.reg [(mV 53 8),(oD 54 (.bin .shr (tP 53) (.const (.int .u64 (32))))),(mV 8 54)]))))) (.reg [(bC 55 .add 26 1),(mV 26 55)]))))
abbrev c55_b2:CC:=(.seq (.reg [(bB 20 .lss 19 18)]) (.seq (.cond (tP 20) .skip (.exit 0)) (.seq (.block 1 (.seq (.reg [(mV 21 19),(xA 22 1 17 19),(lF 23 1 22),(mV 6 21),(mV 7 23)]) (.seq (.reg [(oD 8 (.mv (.const (.int .u64 (0)))))]) (.seq (.seq (.reg [(mV 24 1),(nL 25 24),(mI 26 0)]) (.block 2 (.loop c55_b1))) c55_k3)))) c55_k2)))
abbrev c55:CC:=(.seq (.reg [(oD 4 (.mv nC))]) (.seq (.reg [(mV 11 0),(nL 12 11),(mV 13 1),(nL 14 13),(bB 15 .add 12 14),(oD 16 (.make 140 1 4 [(.int .u32 (0))] (tP 15) (tP 15))),(mV 5 16)]) (.seq (.seq (.reg [(mV 17 0),(nL 18 17),(mI 19 0)]) (.block 0 (.loop c55_b2))) c55_k1)))
theorem cc55:ZA Tryz.prog [] (Tryz.f55.body.getD .skip) = PA c55:=by kernel_rfl
theorem body55:Tryz.f55.body = PA (Tryz.f55.body.getD .skip):=rfl
theorem mul_C (a b:iG) (ha:(UA a).length <= 500000000) (hb:(UA b).length <= 500000000):YA Tryz.prog 55 [aN a,aN b] (.ret (aN (iC (a.val * b.val)))):=by
 refine WA (rs:=[(RV.tmp 4)]) Tryz.func55 (fun a w=>Tryz.call55 a w) body55 cc55 (by kernel_rfl) ?_
 rw [Tryz.ntmps55]
 simp only [pC,nA,nS]
 have hm:((UA a).length:Int) + ((UA b).length:Int) = (((UA a).length + (UA b).length:Nat):Int):=by omega
 repeat (first | (with_reducible first | refine W8 ?_ | refine VA rfl ?_) | ((with_reducible refine X8 fun K hK=>?_);simp (disch:=first | omega | simp only [sB];omega) only [qB,reduceIte,reduceCtorEq,iT,nA,nS,nM,iA,iS,iM,iN,fU,hm,repU,tA];subst hK))
 refine xB (fun (zz:Nat × (List UInt32))=>⟨(aN a :: aN b :: .junk :: .junk :: .one (.c (.val (.slice QA 0 0))) :: .one (.own 0 0) :: J8 (.junk :: .junk :: .junk :: aN a :: aI (UA a).length :: aI zz.1 :: K8 (J8 (J4 (.junk :: .junk :: .junk :: []))))),[⟨0,140,1,wB fU zz.2,SA,SA⟩]⟩) (fun (zz:Nat × (List UInt32))=>zz.1 <= (UA a).length /\ zz.2.length = (UA a).length + (UA b).length /\ val zz.2 = VN (UA a) zz.1 * val (UA b) /\ ∀ j,zz.1 + (UA b).length <= j -> KC zz.2 j = 0) (fun (zz:Nat × (List UInt32))=>(UA a).length - zz.1) (0,jA ((UA a).length + (UA b).length) 0) ?hI1 (TB.headA (fN 1) [SA,SA,TA,TA,SA,SA,TA,TA,TA,TA,TA,TA,TA,TA,TA,TA,TA,SA,SA,SA]) ?hB1
 ·dsimp only;exact ⟨by omega,tA,by rw [cL,nK,Nat.zero_mul],fun j _=>xI _ _⟩
 rintro ⟨i,out⟩ ⟨hi,hlen,hval,hz⟩
 dsimp only at hi hlen hval hz
 by_cases him:i = (UA a).length
 ·have ht:=jF (PA out) (by show out.length <= _;omega)
  rw [Option.map_some] at ht
  repeat (first | (with_reducible first | refine W8 ?_ | refine VA rfl ?_) | ((with_reducible refine X8 fun K hK=>?_);simp (disch:=first | omega | simp only [sB];omega) only [qB,reduceIte,reduceCtorEq,iT,nA,nS,nM,iA,iS,iM,iN,fU];subst hK) | refine zqR (ht) ?_)
  refine ⟨_,rfl,?_⟩
  rw [hval,eH _ (by omega)]
  exact JD.ret_c
 ·have hx:=dG (UA a) i
  have hdx:=iE (UA a) i (by omega)
  repeat (first | (with_reducible first | refine W8 ?_ | refine VA rfl ?_) | ((with_reducible refine X8 fun K hK=>?_);simp (disch:=first | omega | simp only [sB];omega) only [qB,reduceIte,reduceCtorEq,iT,nA,nS,nM,iA,iS,iM,iN,fU,<- hdx];subst hK))
  refine xB (fun (zz:Nat × (List UInt32) × Nat)=>⟨(aN a :: aN b :: .junk :: .junk :: .one (.c (.val (.slice QA 0 0))) :: .one (.own 0 0) :: aI i :: aU32 (KC (UA a) i) :: aU zz.2.2 :: J8 (aN a :: aI (UA a).length :: aI i :: J4 (aN b :: aI (UA b).length :: aI zz.1 :: K8 (J8 ([]))))),[⟨0,140,1,wB fU zz.2.1,SA,SA⟩]⟩) (fun (zz:Nat × (List UInt32) × Nat)=>zz.1 <= (UA b).length /\ zz.2.1.length = (UA a).length + (UA b).length /\ zz.2.2 < 4294967296 /\ val zz.2.1 + W ^ (i + zz.1) * zz.2.2 = VN (UA a) i * val (UA b) + KC (UA a) i * W ^ i * VN (UA b) zz.1 /\ ∀ j,i + (UA b).length <= j -> KC zz.2.1 j = 0) (fun (zz:Nat × (List UInt32) × Nat)=>(UA b).length - zz.1) (0,out,0) ?hI2 (TB.headA (fN 1) [SA,SA,TA,TA,SA,SA,SA,SA,SA,TA,TA,TA,TA,TA,TA,TA,TA,SA,SA,SA,TA,TA,TA,TA,SA,SA,SA]) ?hB2
  ·dsimp only;exact ⟨by omega,hlen,by omega,by rw [hval,nK];simp,hz⟩
  clear hdx hval hlen hz
  rintro ⟨k,out2,c⟩ ⟨hk,hlen,hc,hval,hz⟩
  dsimp only at hk hlen hc hval hz
  by_cases hkm:k = (UA b).length
  ·have hib:((i:Int) + ((UA b).length:Int)).toNat = i + (UA b).length:=by omega
   repeat (first | (with_reducible first | refine W8 ?_ | refine VA rfl ?_) | ((with_reducible refine X8 fun K hK=>?_);simp (disch:=first | omega | simp only [sB];omega) only [qB,reduceIte,reduceCtorEq,iT,nA,nS,nM,iA,iS,iM,iN,fU,hib,RH,setU];subst hK))
   refine ⟨(i + 1,out2.set (i + (UA b).length) (u32 (c:Int))),?hI3,?hM3,TB.headA (fN 1) [SA,SA,TA,TA,SA,SA,TA,TA,TA,TA,TA,TA,TA,TA,TA,TA,TA,SA,SA,SA]⟩
   ·dsimp only
    refine ⟨by omega,by rw [List.length_set];exact hlen,?_,fun j hj=>?_⟩
    ·have e:=MO out2 (i + (UA b).length) (by omega) (u32 (c:Int))
     rw [hz _ (EA _),YG,Nat.mod_eq_of_lt hc] at e
     subst hkm
     rw [eH (UA b) (EA _)] at hval
     rw [BE,Nat.add_mul]
     have e2:4294967296 ^ i * KC (UA a) i * val (UA b) = KC (UA a) i * W ^ i * val (UA b):=by ac_rfl
     rw [e2,<- hval,<- e]
     simp
    ·rw [NH _ _ _ _ (by omega)]
     exact hz j (by omega)
   ·dsimp only;omega
  ·have hy:=dG (UA b) k
   have hdy:=iE (UA b) k (by omega)
   have ho:=dG out2 (i + k)
   have hdo:=iE out2 (i + k) (by omega)
   have hik:((i:Int) + (k:Int)).toNat = i + k:=by omega
   have hxy:KC (UA a) i * KC (UA b) k <= 4294967295 * 4294967295:=Nat.mul_le_mul (by omega) (by omega)
   have hxyI:(KC (UA a) i:Int) * (KC (UA b) k:Int) = ((KC (UA a) i * KC (UA b) k:Nat):Int):=by simp
   repeat (first | (with_reducible first | refine W8 ?_ | refine VA rfl ?_) | ((with_reducible refine X8 fun K hK=>?_);simp (disch:=first | omega | simp only [sB];omega) only [qB,reduceIte,reduceCtorEq,iT,nA,nS,nM,iA,iS,iM,iN,fU,hik,hxyI,<- hdy,<- hdo,RH,setU,shr32];subst hK))
   refine ⟨(k + 1,out2.set (i + k) (u32 ((c:Int) + (((KC (UA a) i * KC (UA b) k:Nat):Int) + KC out2 (i + k)))),(c + (KC (UA a) i * KC (UA b) k + KC out2 (i + k))) / 4294967296),?hI4,?hM4,TB.headA (fN 1) [SA,SA,TA,TA,SA,SA,SA,SA,SA,TA,TA,TA,TA,TA,TA,TA,TA,SA,SA,SA,TA,TA,TA,TA,SA,SA,SA]⟩
   ·dsimp only
    have e:=YG (c + (KC (UA a) i * KC (UA b) k + KC out2 (i + k)))
    rw [NA c,NA (KC (UA a) i * KC (UA b) k)] at e
    have hV:=MO out2 (i + k) (by omega) (u32 ((c:Int) + (((KC (UA a) i * KC (UA b) k:Nat):Int) + KC out2 (i + k))))
    rw [e] at hV
    refine ⟨by omega,by rw [List.length_set];exact hlen,?_,?_,fun j hj=>?_⟩
    ·generalize KC (UA a) i * KC (UA b) k = p at *
     omega
    ·rw [BE]
     exact mul_step hV hval
    ·rw [NH _ _ _ _ (by omega)]
     exact hz j (by omega)
   ·dsimp only;omega
end Go.Proofs.YtncgbjhojbnecaaGreat
namespace Go.Proofs.YtncgbjhojbnecaaGreat
open Go Go.Am Go.Proofs Go.Off
open Nat renaming reduceAdd -> nA,reduceSub -> nS,reduceMul -> nM,reduceBEq -> nB
open Int renaming reduceToNat -> iT,reduceAdd -> iA,reduceSub -> iS,reduceMul -> iM,reduceNeg -> iN
theorem small_or {n d:Nat} (hd:d < 4294967296):orI .u64 ((n * 4294967296 % 18446744073709551616:Nat):Int) (d:Int) = ((n * 4294967296 % 18446744073709551616 + d:Nat):Int):=by
 rw [orI_u64 (by omega) (by omega)]
 have e2:n * 4294967296 % 18446744073709551616 = 2 ^ 32 * (n % 4294967296):=by omega
 rw [e2,or_add (by simpa using hd)]
abbrev c116_k1:CC:=(.seq (.reg [(lF 21 1 4),(mV 2 21),(mB 3 SA)]) .ret)
abbrev c116_b1:CC:=(.block 1 (.reg [(lF 16 1 4),(oD 17 (.bin .shl (tP 16) (.const (.int .u64 (32))))),(mV 18 6),(oD 19 (.conv .u64 (tP 18))),(bB 20 .or 17 19),(sT 1 4 20)]))
abbrev c116:CC:=(.seq (.reg [(oD 2 (.mv (.const (.int .u64 (0))))),(mB 3 TA)]) (.seq (.reg [(mV 7 0),(oD 8 (.callf (.func 92) [(tP 7)])),(mV 0 8)]) (.seq (.seq (.reg [(mV 9 0),(nL 10 9),(bC 11 .gtr 10 2)]) (.cond (tP 11) (.seq (.reg [(oD 2 (.mv (.const (.int .u64 (0))))),(mB 3 TA)]) .ret) .skip)) (.seq (.reg [(oD 4 (.new 99 [(.int .u64 (0))])),⟨QA,QA,.store 1 (tP 4) (.const (.int .u64 (0)))⟩]) (.seq (.seq (.reg [(mV 12 0),(oD 13 (.callf (.func 123) [(tP 12)]))]) (.block 0 (.rf (tP 13) [14,15] [(6,15)] c116_b1))) c116_k1)))))
theorem cc116:ZA Tryz.prog [] (Tryz.f116.body.getD .skip) = PA c116:=by kernel_rfl
theorem body116:Tryz.f116.body = PA (Tryz.f116.body.getD .skip):=rfl
theorem small_C (a:iG) (ha:(UA a).length <= 1000000000) (hlt:a.val < 18446744073709551616):YA Tryz.prog 116 [aN a] (.ret (.tup [aU a.val,aB SA])):=by
 refine WA (rs:=[(RV.tmp 2),(RV.tmp 3)]) Tryz.func116 (fun a w=>Tryz.call116 a w) body116 cc116 (by kernel_rfl) ?_
 rw [Tryz.ntmps116]
 simp only [pC,nA,nS]
 have hta:=jF a (by omega)
 change YA _ _ _ (.ret (aN (KD a))) at hta
 have hsa:=SF a
 have hla:=NC a
 rw [<- hsa] at hla
 generalize KD a = s at *
 have hl2:(UA s).length <= 2:=by rw [hsa];exact fC (by simpa using hlt)
 have hvs:val (UA s) = a.val:=by rw [hsa,FC]
 repeat (first | (with_reducible first | refine W8 ?_ | refine VA rfl ?_) | ((with_reducible refine X8 fun K hK=>?_);simp (disch:=first | omega | simp only [sB];omega) only [qB,reduceIte,reduceCtorEq,iT,nA,nS,nM,iA,iS,iM,iN,fU];subst hK) | refine KB (hta) rfl rfl rfl ?_ | refine KB (PL _) rfl rfl rfl ?_)
 refine awp_fold (IN s (by omega)) rfl (by simp [wE]) (fun (n:Nat)=>[⟨0,99,1,[[.c (.val (.int .u64 (n:Int)))]],SA,SA⟩]) (fun n k=>n * 4294967296 % 18446744073709551616 + KC (UA s) k.1) (fun _ n=>n < 18446744073709551616) 0 rfl (by omega) ?_ ?_
 ·intro i n k _ hn
  have hd:=dG (UA s) k.1
  rw [show backAV (UA s) k = [aI (k.1:Int),aU32 (KC (UA s) k.1:Nat)] from by rw [iE _ _ k.2]]
  simp only [mvT,VG,rnd,nA]
  have hs:=shlI_u64 (n:=32) (m:=4294967296) n (by decide) (by decide)
  have ho:=small_or (n:=n) hd
  have hp:n * 4294967296 % 18446744073709551616 + KC (UA s) k.1 < 18446744073709551616:=by omega
  generalize n * 4294967296 % 18446744073709551616 = p at hs ho hp
  repeat (first | (with_reducible first | refine W8 ?_ | refine VA rfl ?_) | ((with_reducible refine X8 fun K hK=>?_);simp (disch:=first | omega | simp only [sB];omega) only [qB,reduceIte,reduceCtorEq,iT,nA,nS,nM,iA,iS,iM,iN,fU,hs,ho];subst hK))
  refine ⟨_,⟨rfl,?hI1⟩,_,TB.head (EA _) [] rfl ?hH1⟩
  case hH1=>first | (simp (disch:=omega) only [pD,IB,lB,XA,clean1,uB,reduceIte,iS,iA,iN];done) | rfl
  exact hp
 ·intro _
  have hf:=aO (UA s).length (fun n k=>n * 4294967296 % 18446744073709551616 + KC (UA s) k.1) (fun k n=>n = val ((UA s).drop k)) 0 (by simp [val]) (fun k b hb=>by
   subst hb
   have h1:=IE ((UA s).drop (k.1 + 1))
   have h2:((UA s).drop (k.1 + 1)).length <= 1:=by simp;omega
   have h3:val ((UA s).drop (k.1 + 1)) < 4294967296 ^ 1:=HA h1 (Nat.pow_le_pow_right (by decide) h2)
   have h4:=ZL (UA s) k.1 k.2
   rw [<- iE (UA s) k.1 k.2] at h4
   show _ = val ((UA s).drop k.1)
   rw [h4]
   have hd:=dG (UA s) k.1
   simp at h3
   omega)
  simp only [List.drop_zero,hvs] at hf
  rw [hf]
  repeat (first | (with_reducible first | refine W8 ?_ | refine VA rfl ?_) | ((with_reducible refine X8 fun K hK=>?_);simp (disch:=first | omega | simp only [sB];omega) only [qB,reduceIte,reduceCtorEq,iT,nA,nS,nM,iA,iS,iM,iN,fU];subst hK))
  exact ⟨_,rfl,rfl⟩
abbrev c125_k1:CC:=(.seq (.reg [(mV 61 5),(oD 62 (.callf (.func 92) [(tP 61)])),(mV 4 62)]) .ret)
abbrev c125_b1:CC:=(.seq (.reg [(bB 27 .lss 26 25)]) (.seq (.cond (tP 27) .skip (.exit 0)) (.seq (.block 1 (.seq (.reg [(mV 28 26),(xA 29 1 24 26),(lF 30 1 29),(mV 6 28),(mV 7 30)]) (.seq (.reg [(mV 31 7),(oD 32 (.conv .u64 (tP 31))),(mV 33 1),(bC 34 .rem 33 32),(bB 35 .shl 32 34),(mV 8 35)]) (.seq (.reg [(mV 36 5),(mV 37 6),(mV 38 1),(bC 39 .quo 38 32),(bB 40 .add 37 39),(xA 41 1 36 40),(lF 42 1 41),(mV 43 8),(oD 44 (.conv .u32 (tP 43))),(bB 45 .or 42 44),(xA 46 1 36 40),(sT 1 46 45)]) (.reg [(mV 47 5),(mV 48 6),(mV 49 1),(bC 50 .quo 49 32),(bB 51 .add 48 50),(bC 52 .add 51 1),(xA 53 1 47 52),(lF 54 1 53),(mV 55 8),(oD 56 (.bin .shr (tP 55) (.const (.int .u64 (32))))),(oD 57 (.conv .u32 (tP 56))),(bB 58 .or 54 57),(xA 59 1 47 52),(sT 1 59 58)]))))) (.reg [(bC 60 .add 26 1),(mV 26 60)]))))
abbrev c125:CC:=(.seq (.reg [(oD 4 (.mv nC))]) (.seq (.seq (.reg [(mV 9 1),(bC 10 .lss 9 0),(mV 11 10),(gM 12 11 TA 1),(oG 13 11 TA (.bin .gtr (tP 12) (.const (.int .i64 (65536))))),(pT 14 11 13)]) (.cond (tP 14) (.seq (.reg [(mV 15 0),(oD 16 (.callf (.func 92) [(tP 15)])),(mV 4 16)]) .ret) .skip)) (.seq (.reg [(mV 17 0),(nL 18 17),(mV 19 1),(bC 20 .quo 19 32),(bB 21 .add 18 20),(bC 22 .add 21 1),(oD 23 (.make 140 1 4 [(.int .u32 (0))] (tP 22) (tP 22))),(mV 5 23)]) (.seq (.seq (.reg [(mV 24 0),(nL 25 24),(mI 26 0)]) (.block 0 (.loop c125_b1))) c125_k1))))
theorem cc125:ZA Tryz.prog [] (Tryz.f125.body.getD .skip) = PA c125:=by kernel_rfl
theorem body125:Tryz.f125.body = PA (Tryz.f125.body.getD .skip):=rfl
theorem BT (a:iG) (n:Nat) (ha:(UA a).length <= 1000000000) (hn:n < 32):YA Tryz.prog 125 [aN a,aI n] (.ret (aN (iC (a.val * 2 ^ n)))):=by
 refine WA (rs:=[(RV.tmp 4)]) Tryz.func125 (fun a w=>Tryz.call125 a w) body125 cc125 (by kernel_rfl) ?_
 rw [Tryz.ntmps125]
 simp only [pC,nA,nS]
 have hq:((n:Int).tdiv 32) = 0:=by rw [iJ (by omega)];omega
 have hr:((n:Int).tmod 32) = n:=by rw [gJ (by omega)];omega
 have hl1:(((UA a).length:Int) + 1) = (((UA a).length + 1:Nat):Int):=by omega
 repeat (first | (with_reducible first | refine W8 ?_ | refine VA rfl ?_) | ((with_reducible refine X8 fun K hK=>?_);simp (disch:=first | omega | simp only [sB];omega) only [qB,reduceIte,reduceCtorEq,iT,nA,nS,nM,iA,iS,iM,iN,fU,hq,hr,hl1,repU,tA,Int.add_zero];subst hK))
 refine xB (fun (zz:Nat × (List UInt32))=>⟨(aN a :: aI n :: .junk :: .junk :: .one (.c (.val (.slice QA 0 0))) :: .one (.own 0 0) :: L8 (.junk :: .junk :: aN a :: aI (UA a).length :: aI zz.1 :: K8 (J4 ([])))),[⟨0,140,1,wB fU zz.2,SA,SA⟩]⟩) (fun (zz:Nat × (List UInt32))=>zz.1 <= (UA a).length /\ zz.2.length = (UA a).length + 1 /\ val zz.2 = VN (UA a) zz.1 * 2 ^ n /\ (∀ j,zz.1 < j -> KC zz.2 j = 0) /\ KC zz.2 zz.1 < 2 ^ n) (fun (zz:Nat × (List UInt32))=>(UA a).length - zz.1) (0,jA ((UA a).length + 1) 0) ?hI2 (TB.headA (fN 1) [SA,SA,TA,TA,SA,SA,TA,TA,TA,TA,TA,TA,TA,TA,TA,TA,TA,TA,TA,TA,TA,TA,TA,TA,SA,SA,SA]) ?hB2
 ·dsimp only;exact ⟨by omega,tA,by rw [cL,nK,Nat.zero_mul],fun j _=>xI _ _,by rw [xI];exact Nat.pow_pos (by decide)⟩
 rintro ⟨k,out⟩ ⟨hk,hlen,hval,hz,hd⟩
 dsimp only at hk hlen hval hz hd
 by_cases hkm:k = (UA a).length
 ·have ht:=jF (PA out) (by show out.length <= _;omega)
  rw [Option.map_some] at ht
  repeat (first | (with_reducible first | refine W8 ?_ | refine VA rfl ?_) | ((with_reducible refine X8 fun K hK=>?_);simp (disch:=first | omega | simp only [sB];omega) only [qB,reduceIte,reduceCtorEq,iT,nA,nS,nM,iA,iS,iM,iN,fU];subst hK) | refine zqR (ht) ?_)
  refine ⟨_,rfl,?_⟩
  rw [hval,eH _ (by omega)]
  exact JD.ret_c
 ·have hx:=dG (UA a) k
  have hdx:=iE (UA a) k (by omega)
  have hdo:=iE out k (by omega)
  obtain ⟨ho,hv,hu,hy64⟩:=shl_word hn hx hd
  have hs:=shlI_u64 (n:=n) (KC (UA a) k) (by omega) rfl
  rw [Nat.mod_eq_of_lt hy64] at hs
  generalize hy:KC (UA a) k * 2 ^ n = y at *
  have hc:=eJ y
  have hor:=orI_u32 (x:=KC out k) (y:=y % 4294967296) (dG _ _) (by omega)
  rw [show KC out k ||| y % 4294967296 = (UInt32.ofNat (KC out k + y % 4294967296)).toNat from by rw [ho,UInt32.toNat_ofNat',Nat.mod_eq_of_lt (show _ < 2 ^ 32 from hv)]] at hor
  have hvT:(UInt32.ofNat (KC out k + y % 4294967296)).toNat = KC out k + y % 4294967296:=by rw [UInt32.toNat_ofNat',Nat.mod_eq_of_lt (show _ < 2 ^ 32 from hv)]
  generalize UInt32.ofNat (KC out k + y % 4294967296) = v at *
  have hd1:=iE (out.set k v) (k + 1) (by rw [List.length_set];omega)
  have hz1:KC (out.set k v) (k + 1) = 0:=by rw [NH _ _ _ _ (by omega)];exact hz _ (by omega)
  have hyW:y / 4294967296 < 4294967296:=HA hu (by have:=Nat.pow_le_pow_right (n:=2) (by decide) (show n <= 32 by omega);simpa using this)
  have hsh:=shr32 (y:Int) (by omega)
  have hc2:IntKind.u32.wrap ((y:Int) / 4294967296) = ((y / 4294967296:Nat):Int):=by rw [wu32 (by omega) (by omega)];simp
  obtain ⟨u,hu1⟩:∃ u:UInt32,u.toNat = y / 4294967296:=⟨UInt32.ofNat (y / 4294967296),by rw [UInt32.toNat_ofNat',Nat.mod_eq_of_lt (show _ < 2 ^ 32 from hyW)]⟩
  have hor2:orI .u32 ((0:Nat):Int) ((y / 4294967296:Nat):Int) = (u.toNat:Int):=by rw [orI_u32 (by decide) hyW,Nat.zero_or,hu1]
  have hk1:((k:Int) + 1).toNat = k + 1:=by omega
  repeat (first | (with_reducible first | refine W8 ?_ | refine VA rfl ?_) | ((with_reducible refine X8 fun K hK=>?_);simp (disch:=first | omega | simp only [sB];omega) only [qB,reduceIte,reduceCtorEq,iT,nA,nS,nM,iA,iS,iM,iN,fU,<- hdx,hr,hq,hs,hc,hor,<- hdo,setU,Int.add_zero,hsh,hc2,hk1,<- hd1,hz1,hor2];subst hK))
  refine ⟨(k + 1,(out.set k v).set (k + 1) u),?hI3,?hM3,TB.headA (fN 1) [SA,SA,TA,TA,SA,SA,TA,TA,TA,TA,TA,TA,TA,TA,TA,TA,TA,TA,TA,TA,TA,TA,TA,TA,SA,SA,SA]⟩
  ·dsimp only
   have e1:=MO out k (by omega) v
   have e2:=MO (out.set k v) (k + 1) (by rw [List.length_set];omega) u
   rw [hz1,hu1] at e2
   rw [hvT] at e1
   refine ⟨by omega,by rw [List.length_set,List.length_set];exact hlen,?_,fun j hj=>?_,?_⟩
   ·rw [BE]
    exact shl_val hy.symm e1 e2 hval
   ·rw [NH _ _ _ _ (by omega),NH _ _ _ _ (by omega)]
    exact hz j (by omega)
   ·rw [dgt_set_eq _ _ (by rw [List.length_set];omega),hu1]
    exact hu
  ·dsimp only;omega
end Go.Proofs.YtncgbjhojbnecaaGreat
namespace Go.Proofs.YtncgbjhojbnecaaGreat
open Go Go.Am Go.Proofs Go.Off
open Nat renaming reduceAdd -> nA,reduceSub -> nS,reduceMul -> nM,reduceBEq -> nB
open Int renaming reduceToNat -> iT,reduceAdd -> iA,reduceSub -> iS,reduceMul -> iM,reduceNeg -> iN
theorem xD (n:Nat):UA (iC n) = DB n:=rfl
theorem mC {a b:Nat} (h:a <= b):(DB a).length <= (DB b).length:=by
 have:=IE (DB b)
 rw [FC] at this
 exact fC (Nat.lt_of_le_of_lt h this)
theorem wK (b k:Nat) (hk:k <= 32):(DB (b * 2 ^ k)).length <= (DB b).length + 1:=by
 have h1:=IE (DB b)
 rw [FC] at h1
 have h2:(2:Nat) ^ k <= 2 ^ 32:=Nat.pow_le_pow_right (by decide) hk
 refine fC ?_
 rw [Nat.pow_succ]
 calc b * 2 ^ k <= b * 2 ^ 32:=Nat.mul_le_mul_left _ h2
  _ < 4294967296 ^ (DB b).length * 4294967296:=Nat.mul_lt_mul_of_pos_right h1 (by decide)
abbrev c124_k1:CC:=(.seq (.reg [(mV 28 6),(mV 29 0),(mV 4 28),(mV 5 29)]) .ret)
abbrev c124_b1:CC:=(.seq (.seq (.reg [(mV 10 7),(bC 11 .geq 10 0)]) (.cond (tP 11) .skip (.exit 0))) (.seq (.block 1 (.seq (.reg [(mV 15 0),(mV 16 1),(mV 17 7),(oD 18 (.callf (.func 125) [(tP 16),(tP 17)])),(oD 19 (.callf (.func 94) [(tP 15),(tP 18)])),(mV 14 19),(eX 20 14 0),(eX 21 14 1),(mV 8 20),(mV 9 21)]) (.seq (.reg [(mV 22 9)]) (.cond (tP 22) (.seq (.reg [(mV 23 8),(mV 0 23)]) (.reg [(mV 24 6),(mV 25 7),(oD 26 (.bin .shl (.const (.int .u32 (1))) (tP 25))),(bB 27 .or 24 26),(mV 6 27)])) .skip)))) (.reg [(mV 12 7),(bC 13 .sub 12 1),(mV 7 13)])))
abbrev c124:CC:=(.seq (.reg [(oD 4 (.mv (.const (.int .u32 (0))))),(oD 5 (.mv nC))]) (.seq (.reg [(oD 6 (.mv (.const (.int .u32 (0)))))]) (.seq (.seq (.reg [(mI 7 31)]) (.block 0 (.loop c124_b1))) c124_k1)))
theorem cc124:ZA Tryz.prog [] (Tryz.f124.body.getD .skip) = PA c124:=by kernel_rfl
theorem body124:Tryz.f124.body = PA (Tryz.f124.body.getD .skip):=rfl
theorem digit_C (A0:Nat) (b:iG) (hb:(UA b).length <= 100000000) (hl:(DB A0).length <= 200000000) (hA:A0 < b.val * 2 ^ 32) :
  YA Tryz.prog 124 [aN (iC A0),aN b] (.ret (.tup [aU32 ((A0 / b.val:Nat):Int),aN (iC (A0 % b.val))])):=by
 refine WA (rs:=[(RV.tmp 4),(RV.tmp 5)]) Tryz.func124 (fun a w=>Tryz.call124 a w) body124 cc124 (by kernel_rfl) ?_
 rw [Tryz.ntmps124]
 simp only [pC,nA,nS]
 have hlb:=NC b
 repeat (first | (with_reducible first | refine W8 ?_ | refine VA rfl ?_) | ((with_reducible refine X8 fun K hK=>?_);simp (disch:=first | omega | simp only [sB];omega) only [qB,reduceIte,reduceCtorEq,iT,nA,nS,nM,iA,iS,iM,iN,fU];subst hK))
 refine xB (fun (zz:Nat × Nat × Nat)=>⟨(aN (iC zz.2.1) :: aN b :: .junk :: .junk :: aU32 0 :: .one (.c (.val (.slice QA 0 0))) :: aU32 zz.2.2 :: aI ((zz.1:Int) - 1) :: L8 (J4 (.junk :: .junk :: []))),[]⟩) (fun (zz:Nat × Nat × Nat)=>DigI A0 b.val zz.2.1 zz.2.2 zz.1 /\ zz.2.1 <= A0 /\ zz.1 <= 32) (fun (zz:Nat × Nat × Nat)=>zz.1) (32,A0,0) ?hI1 (TB.headA (EA _) [SA,SA,TA,TA,SA,SA,SA,SA]) ?hB1
 ·dsimp only;exact ⟨DigI.start hA,EA _,EA _⟩
 rintro ⟨k,A,q⟩ ⟨hI,hle,hk⟩
 dsimp only at hI hle hk
 cases k with
 | zero =>
  obtain ⟨h1,h2⟩:=hI.done
  repeat (first | (with_reducible first | refine W8 ?_ | refine VA rfl ?_) | ((with_reducible refine X8 fun K hK=>?_);simp (disch:=first | omega | simp only [sB];omega) only [qB,reduceIte,reduceCtorEq,iT,nA,nS,nM,iA,iS,iM,iN,fU];subst hK))
  refine ⟨_,rfl,?_⟩
  rw [<- h1,<- h2]
  exact rfl
 | succ k =>
  have hk1:((k + 1:Nat):Int) - 1 = (k:Int):=by omega
  have hdl:=mC hle
  have hsl:=wK b.val k (by omega)
  by_cases hge:b.val * 2 ^ k <= A
  ·obtain ⟨hI2,hor⟩:=hI.yes hge
   have hq:=hI2.qlt
   have hp:0 < 2 ^ k:=Nat.pow_pos (by decide)
   have hs:shlI .u32 1 k = ((2 ^ k:Nat):Int):=by
    have:=shlI_u32 (n:=k) 1 (by omega) rfl
    rw [Nat.one_mul,Nat.mod_eq_of_lt (by omega)] at this
    exact this
   have ho:=orI_u32 (x:=q) (y:=2 ^ k) (by omega) (by omega)
   have hsub:=oP (iC A) (iC (b.val * 2 ^ k)) (by rw [xD];omega) (by rw [xD];omega) (by rw [rowN_val,rowN_val];exact hge)
   rw [rowN_val,rowN_val] at hsub
   repeat (first | (with_reducible first | refine W8 ?_ | refine VA rfl ?_) | ((with_reducible refine X8 fun K hK=>?_);simp (disch:=first | omega | simp only [sB];omega) only [qB,reduceIte,reduceCtorEq,iT,nA,nS,nM,iA,iS,iM,iN,fU,hk1,hs,ho];subst hK) | refine KB (BT b k (by omega) (by omega)) rfl rfl rfl ?_ | refine KB (hsub) rfl rfl rfl ?_)
   refine ⟨(k,A - b.val * 2 ^ k,q ||| 2 ^ k),?hI2,?hM2,TB.headA (EA _) [SA,SA,TA,TA,SA,SA,SA,SA]⟩
   ·dsimp only;exact ⟨hI2,by omega,by omega⟩
   ·dsimp only;omega
  ·have hI2:=hI.no (by omega)
   have hsub:=sub_lt (iC A) (iC (b.val * 2 ^ k)) (by rw [xD];omega) (by rw [xD];omega) (by rw [rowN_val,rowN_val];omega)
   repeat (first | (with_reducible first | refine W8 ?_ | refine VA rfl ?_) | ((with_reducible refine X8 fun K hK=>?_);simp (disch:=first | omega | simp only [sB];omega) only [qB,reduceIte,reduceCtorEq,iT,nA,nS,nM,iA,iS,iM,iN,fU,hk1];subst hK) | refine KB (BT b k (by omega) (by omega)) rfl rfl rfl ?_ | refine KB (hsub) rfl rfl rfl ?_)
   refine ⟨(k,A,q),?hI3,?hM3,TB.headA (EA _) [SA,SA,TA,TA,SA,SA,SA,SA]⟩
   ·dsimp only;exact ⟨hI2,by omega,by omega⟩
   ·dsimp only;omega
def lenTab:List UInt8:=[0,1,2,2,3,3,3,3,4,4,4,4,4,4,4,4,5,5,5,5,5,5,5,5,5,5,5,5,5,5,5,5,6,6,6,6,6,6,6,6,6,6,6,6,6,6,6,6,6,6,6,6,6,6,6,6,6,6,6,6,6,6,6,6,7,7,7,7,7,7,7,7,7,7,7,7,7,7,7,7,7,7,7,7,7,7,7,7,7,7,7,7,7,7,7,7,7,7,7,7,7,7,7,7,7,7,7,7,7,7,7,7,7,7,7,7,7,7,7,7,7,7,7,7,7,7,7,7,8,8,8,8,8,8,8,8,8,8,8,8,8,8,8,8,8,8,8,8,8,8,8,8,8,8,8,8,8,8,8,8,8,8,8,8,8,8,8,8,8,8,8,8,8,8,8,8,8,8,8,8,8,8,8,8,8,8,8,8,8,8,8,8,8,8,8,8,8,8,8,8,8,8,8,8,8,8,8,8,8,8,8,8,8,8,8,8,8,8,8,8,8,8,8,8,8,8,8,8,8,8,8,8,8,8,8,8,8,8,8,8,8,8,8,8,8,8,8,8,8,8,8,8,8,8,8,8]
def lenStr:Value:=.string ⟨#[0,1,2,2,3,3,3,3,4,4,4,4,4,4,4,4,5,5,5,5,5,5,5,5,5,5,5,5,5,5,5,5,6,6,6,6,6,6,6,6,6,6,6,6,6,6,6,6,6,6,6,6,6,6,6,6,6,6,6,6,6,6,6,6,7,7,7,7,7,7,7,7,7,7,7,7,7,7,7,7,7,7,7,7,7,7,7,7,7,7,7,7,7,7,7,7,7,7,7,7,7,7,7,7,7,7,7,7,7,7,7,7,7,7,7,7,7,7,7,7,7,7,7,7,7,7,7,7,8,8,8,8,8,8,8,8,8,8,8,8,8,8,8,8,8,8,8,8,8,8,8,8,8,8,8,8,8,8,8,8,8,8,8,8,8,8,8,8,8,8,8,8,8,8,8,8,8,8,8,8,8,8,8,8,8,8,8,8,8,8,8,8,8,8,8,8,8,8,8,8,8,8,8,8,8,8,8,8,8,8,8,8,8,8,8,8,8,8,8,8,8,8,8,8,8,8,8,8,8,8,8,8,8,8,8,8,8,8,8,8,8,8,8,8,8,8,8,8,8,8,8,8,8,8,8,8]⟩
theorem eG:yB lenStr = .one (.c (.str lenTab)):=rfl
theorem lenTab_all:((List.range 256).all fun j=>j == 0 || (match lenTab[j]? with | some b=>1 <= b.toNat && b.toNat <= 8 | none=>TA)) = SA:=by kernel_rfl
theorem xJ {j:Nat} (h1:1 <= j) (h2:j < 256):∃ b:UInt8,lenTab[j]? = PA b /\ 1 <= b.toNat /\ b.toNat <= 8:=by
 have:=List.all_eq_true.1 lenTab_all j (zA.2 h2)
 cases hq:lenTab[j]? with
 | none=>rw [hq] at this;simp at this;omega
 | some b=>rw [hq] at this;simp at this;exact ⟨b,rfl,by omega,by omega⟩
abbrev c129:CC:=(.seq (.reg [(mI 2 0)]) (.seq (.seq (.reg [(mV 3 0),(oD 4 (.bin .geq (tP 3) (.const (.int .u32 (65536)))))]) (.cond (tP 4) (.seq (.reg [(mV 5 0),(oD 6 (.bin .shr (tP 5) (.const (.int .u64 (16))))),(mV 0 6)]) (.reg [(mI 2 16)])) .skip)) (.seq (.seq (.reg [(mV 7 0),(oD 8 (.bin .geq (tP 7) (.const (.int .u32 (256)))))]) (.cond (tP 8) (.seq (.reg [(mV 9 0),(oD 10 (.bin .shr (tP 9) (.const (.int .u64 (8))))),(mV 0 10)]) (.reg [(mV 11 2),(bC 12 .add 11 8),(mV 2 12)])) .skip)) (.seq (.reg [(mV 13 2),(mV 14 0),(oD 15 (.conv .u8 (tP 14))),(oD 16 (.sidx (.const lenStr) (tP 15))),(oD 17 (.conv .i64 (tP 16))),(bB 18 .add 13 17),(mV 2 18)]) .ret))))
theorem cc129:ZA Tryz.prog [] (Tryz.f129.body.getD .skip) = PA c129:=by kernel_rfl
theorem ZO:Tryz.f129.body = PA (Tryz.f129.body.getD .skip):=rfl
theorem len32_C (x:Nat) (h1:1 <= x) (h2:x < 4294967296):∃ m:Nat,1 <= m /\ m <= 40 /\ YA Tryz.prog 129 [aU32 (x:Int)] (.ret (aI (m:Int))):=by
 have hs16:cN .u32 (x:Int) 16 = ((x / 65536:Nat):Int):=by unfold cN;rw [Int.fdiv_eq_ediv_of_nonneg _ (Int.pow_nonneg (by decide))];simp [IntKind.bits]
 have hs8:∀ y:Nat,cN .u32 (y:Int) 8 = ((y / 256:Nat):Int):=fun y=>by unfold cN;rw [Int.fdiv_eq_ediv_of_nonneg _ (Int.pow_nonneg (by decide))];simp [IntKind.bits]
 by_cases hA:65536 <= x
 ·by_cases hB:256 <= x / 65536
  ·obtain ⟨b,hb,hb1,hb2⟩:=xJ (j:=x / 65536 / 256) (by omega) (by omega)
   refine ⟨24 + b.toNat,by omega,by omega,?_⟩
   refine WA (rs:=[(RV.tmp 2)]) Tryz.func129 (fun a w=>Tryz.call129 a w) ZO cc129 (by kernel_rfl) ?_
   rw [Tryz.ntmps129]
   simp only [pC,nA,nS]
   repeat (first | (with_reducible first | refine W8 ?_ | refine VA rfl ?_) | ((with_reducible refine X8 fun K hK=>?_);simp (disch:=first | omega | simp only [sB];omega) only [qB,reduceIte,reduceCtorEq,iT,nA,nS,nM,iA,iS,iM,iN,fU,hs16,hs8,eG,hb];subst hK))
   exact ⟨_,rfl,by rw [NA];exact JD.ret_c⟩
  ·obtain ⟨b,hb,hb1,hb2⟩:=xJ (j:=x / 65536) (by omega) (by omega)
   refine ⟨16 + b.toNat,by omega,by omega,?_⟩
   refine WA (rs:=[(RV.tmp 2)]) Tryz.func129 (fun a w=>Tryz.call129 a w) ZO cc129 (by kernel_rfl) ?_
   rw [Tryz.ntmps129]
   simp only [pC,nA,nS]
   repeat (first | (with_reducible first | refine W8 ?_ | refine VA rfl ?_) | ((with_reducible refine X8 fun K hK=>?_);simp (disch:=first | omega | simp only [sB];omega) only [qB,reduceIte,reduceCtorEq,iT,nA,nS,nM,iA,iS,iM,iN,fU,hs16,hs8,eG,hb];subst hK))
   exact ⟨_,rfl,by rw [NA];exact JD.ret_c⟩
 ·by_cases hB:256 <= x
  ·obtain ⟨b,hb,hb1,hb2⟩:=xJ (j:=x / 256) (by omega) (by omega)
   refine ⟨8 + b.toNat,by omega,by omega,?_⟩
   refine WA (rs:=[(RV.tmp 2)]) Tryz.func129 (fun a w=>Tryz.call129 a w) ZO cc129 (by kernel_rfl) ?_
   rw [Tryz.ntmps129]
   simp only [pC,nA,nS]
   repeat (first | (with_reducible first | refine W8 ?_ | refine VA rfl ?_) | ((with_reducible refine X8 fun K hK=>?_);simp (disch:=first | omega | simp only [sB];omega) only [qB,reduceIte,reduceCtorEq,iT,nA,nS,nM,iA,iS,iM,iN,fU,hs16,hs8,eG,hb];subst hK))
   exact ⟨_,rfl,by rw [NA];exact JD.ret_c⟩
  ·obtain ⟨b,hb,hb1,hb2⟩:=xJ (j:=x) (by omega) (by omega)
   refine ⟨0 + b.toNat,by omega,by omega,?_⟩
   refine WA (rs:=[(RV.tmp 2)]) Tryz.func129 (fun a w=>Tryz.call129 a w) ZO cc129 (by kernel_rfl) ?_
   rw [Tryz.ntmps129]
   simp only [pC,nA,nS]
   repeat (first | (with_reducible first | refine W8 ?_ | refine VA rfl ?_) | ((with_reducible refine X8 fun K hK=>?_);simp (disch:=first | omega | simp only [sB];omega) only [qB,reduceIte,reduceCtorEq,iT,nA,nS,nM,iA,iS,iM,iN,fU,hs16,hs8,eG,hb];subst hK))
   exact ⟨_,rfl,by rw [NA];exact JD.ret_c⟩
abbrev c95:CC:=(.seq (.reg [(mI 2 0)]) (.seq (.reg [(mV 3 0),(oD 4 (.callf (.func 92) [(tP 3)])),(mV 0 4)]) (.seq (.seq (.reg [(mV 5 0),(nL 6 5),(bC 7 .eql 6 0)]) (.cond (tP 7) (.seq (.reg [(mI 2 0)]) .ret) .skip)) (.seq (.reg [(mV 8 0),(nL 9 8),(bC 10 .sub 9 1),(oD 11 (.bin .mul (.const (.int .i64 (32))) (tP 10))),(mV 12 0),(mV 13 0),(nL 14 13),(bC 15 .sub 14 1),(xA 16 1 12 15),(lF 17 1 16),(oD 18 (.callf (.func 129) [(tP 17)])),(bB 19 .add 11 18),(mV 2 19)]) .ret))))
theorem cc95:ZA Tryz.prog [] (Tryz.f95.body.getD .skip) = PA c95:=by kernel_rfl
theorem body95:Tryz.f95.body = PA (Tryz.f95.body.getD .skip):=rfl
theorem bits_C (a:iG) (ha:(UA a).length <= 1000000000):∃ m:Nat,(m = 0 ↔ a.val = 0) /\ YA Tryz.prog 95 [aN a] (.ret (aI (m:Int))):=by
 have hta:=jF a (by omega)
 change YA _ _ _ (.ret (aN (KD a))) at hta
 have hsa:=SF a
 have hla:=NC a
 rw [<- hsa] at hla
 generalize KD a = s at *
 by_cases h0:(UA s).length = 0
 ·refine ⟨0,⟨fun _=>?_,fun _=>rfl⟩,?_⟩
  ·rw [hsa] at h0
   exact cG.1 (List.length_eq_zero_iff.1 h0)
  ·refine WA (rs:=[(RV.tmp 2)]) Tryz.func95 (fun a w=>Tryz.call95 a w) body95 cc95 (by kernel_rfl) ?_
   rw [Tryz.ntmps95]
   simp only [pC,nA,nS]
   repeat (first | (with_reducible first | refine W8 ?_ | refine VA rfl ?_) | ((with_reducible refine X8 fun K hK=>?_);simp (disch:=first | omega | simp only [sB];omega) only [qB,reduceIte,reduceCtorEq,iT,nA,nS,nM,iA,iS,iM,iN,fU];subst hK) | refine KB (hta) rfl rfl rfl ?_)
   exact ⟨_,rfl,JD.ret_c⟩
 ·have hlt:(UA s).length - 1 < (UA s).length:=by omega
  have htop:1 <= KC (UA s) ((UA s).length - 1):=by
   rw [iE _ _ hlt]
   have hne:UA s ≠ []:=fun e=>h0 (by rw [e];rfl)
   have h1:=vK a.val (by rw [<- hsa];exact hne)
   have h2:(UA s).getLast hne ≠ 0:=by simpa only [hsa] using h1
   rw [List.getLast_eq_getElem] at h2
   have:(UA s)[(UA s).length - 1].toNat ≠ 0:=fun e=>h2 (UInt32.toNat_inj.1 (by rw [e];rfl))
   omega
  obtain ⟨m,hm1,hm2,hm⟩:=len32_C _ htop (dG _ _)
  refine ⟨32 * ((UA s).length - 1) + m,⟨fun h=>by omega,fun h=>?_⟩,?_⟩
  ·exfalso;apply h0;rw [hsa,h,zC];rfl
  ·have hd:=iE (UA s) ((UA s).length - 1) hlt
   have hi:(((UA s).length:Int) - 1).toNat = (UA s).length - 1:=by omega
   have e:32 * (((UA s).length:Int) - 1) + (m:Int) = ((32 * ((UA s).length - 1) + m:Nat):Int):=by omega
   refine WA (rs:=[(RV.tmp 2)]) Tryz.func95 (fun a w=>Tryz.call95 a w) body95 cc95 (by kernel_rfl) ?_
   rw [Tryz.ntmps95]
   simp only [pC,nA,nS]
   repeat (first | (with_reducible first | refine W8 ?_ | refine VA rfl ?_) | ((with_reducible refine X8 fun K hK=>?_);simp (disch:=first | omega | simp only [sB];omega) only [qB,reduceIte,reduceCtorEq,iT,nA,nS,nM,iA,iS,iM,iN,fU,hi,<- hd,e];subst hK) | refine KB (hta) rfl rfl rfl ?_ | refine KB (hm) rfl rfl rfl ?_)
   exact ⟨_,rfl,JD.ret_c⟩
end Go.Proofs.YtncgbjhojbnecaaGreat
namespace Go.Proofs.YtncgbjhojbnecaaGreat
open Go Go.Am Go.Proofs Go.Off
open Nat renaming reduceAdd -> nA,reduceSub -> nS,reduceMul -> nM,reduceBEq -> nB
open Int renaming reduceToNat -> iT,reduceAdd -> iA,reduceSub -> iS,reduceMul -> iM,reduceNeg -> iN
theorem u32_of {n:Nat} (h:n < 4294967296):(n:Int) = ((u32 (n:Int)).toNat:Int):=by rw [YG,Nat.mod_eq_of_lt h]
abbrev c88_k1:CC:=(.seq (.reg [(lF 66 1 7),(oD 67 (.callf (.func 92) [(tP 66)])),(lF 68 1 8),(mV 4 67),(mV 5 68),(mI 6 0)]) .ret)
abbrev c88_b1:CC:=(.block 1 (.seq (.reg [(mV 27 10),(oD 28 (.mkrow 140 1 [(tP 27)])),(lF 29 1 8),(oD 30 (.append 140 1 4 (tP 28) (tP 29))),(oD 31 (.callf (.func 92) [(tP 30)])),(sT 1 8 31)]) (.seq (.seq (.reg [(lF 32 1 3),(nL 33 32),(bC 34 .eql 33 1)]) (.cond (tP 34) (.seq (.reg [(lF 36 1 8),(oD 37 (.callf (.func 116) [(tP 36)])),(mV 35 37),(eX 38 35 0),(eX 39 35 1),(mV 11 38),(mV 12 39)]) (.seq (.reg [(lF 40 1 7),(mV 41 9),(mV 42 11),(lF 43 1 3),(oD 44 (.iaddr 1 QA (tP 43) (.const (.int .i64 (0))))),(lF 45 1 44),(oD 46 (.conv .u64 (tP 45))),(bB 47 .quo 42 46),(oD 48 (.conv .u32 (tP 47))),(xA 49 1 40 41),(sT 1 49 48)]) (.seq (.reg [(mV 50 11),(lF 51 1 3),(oD 52 (.iaddr 1 QA (tP 51) (.const (.int .i64 (0))))),(lF 53 1 52),(oD 54 (.conv .u64 (tP 53))),(bB 55 .rem 50 54),(oD 56 (.callf (.func 52) [(tP 55)])),(sT 1 8 56)]) (.exit 1)))) .skip)) (.reg [(lF 58 1 7),(mV 59 9),(lF 60 1 8),(lF 61 1 3),(oD 62 (.callf (.func 124) [(tP 60),(tP 61)])),(mV 57 62),(eX 63 57 0),(eX 64 57 1),(xA 65 1 58 59),(sT 1 65 63),(sT 1 8 64)]))))
abbrev c88:CC:=(.seq (.reg [(oD 3 (.box 44 (tP 1))),(oD 4 (.mv nC)),(oD 5 (.mv nC)),(mI 6 0)]) (.seq (.reg [(mV 13 0),(oD 14 (.callf (.func 92) [(tP 13)])),(lF 15 1 3),(oD 16 (.callf (.func 92) [(tP 15)])),(mV 0 14),(sT 1 3 16)]) (.seq (.seq (.reg [(lF 17 1 3),(nL 18 17),(bC 19 .eql 18 0)]) (.cond (tP 19) (.seq (.reg [(oD 4 (.mv nC)),(oD 5 (.mv nC)),(mI 6 5)]) .ret) .skip)) (.seq (.reg [(mV 20 0),(nL 21 20),(oD 22 (.make 140 1 4 [(.int .u32 (0))] (tP 21) (tP 21))),(oD 7 (.new 44 [(.slice QA 0 0)])),(sT 1 7 22)]) (.seq (.reg [(oD 8 (.new 44 [(.slice QA 0 0)]))]) (.seq (.seq (.reg [(mV 23 0),(oD 24 (.callf (.func 123) [(tP 23)]))]) (.block 0 (.rf (tP 24) [25,26] [(9,25),(10,26)] c88_b1))) c88_k1))))))
theorem cc88:ZA Tryz.prog [] (Tryz.f88.body.getD .skip) = PA c88:=by kernel_rfl
theorem body88:Tryz.f88.body = PA (Tryz.f88.body.getD .skip):=rfl
def EJ (s:List UInt32) (B:Nat) (p:List UInt32 × iG) (k:Fin s.length):List UInt32 × iG :=
 (p.1.set k.1 (u32 (((KC s k.1 + 4294967296 * p.2.val) / B:Nat):Int)),iC ((KC s k.1 + 4294967296 * p.2.val) % B))
theorem dm_fold (s:List UInt32) (B:Nat) (hB:0 < B) (out:List UInt32) (hl:out.length = s.length) :
  let r:=(downs s.length s.length).foldl (EJ s B) (out,QA)
  val r.1 = val s / B /\ r.1.length = s.length /\ r.2 = if s.length = 0 then QA else iC (val s % B):=by
 have h:=aO s.length (EJ s B) (fun k p=>p.1.length = s.length /\ val (p.1.drop k) = val (s.drop k) / B /\ p.2 = if k = s.length then QA else iC (val (s.drop k) % B)) (out,QA)
  ⟨hl,by show val (out.drop s.length) = val (s.drop s.length) / B;rw [<- hl,List.drop_length,hl,List.drop_length];simp [val],by simp⟩ (fun k p hp=>by
   obtain ⟨h1,h2,h3⟩:=hp
   have hk:=k.2
   have hr:p.2.val = val (s.drop (k.1 + 1)) % B:=by
    rw [h3]
    split
    ·rename_i he
     rw [he,List.drop_length];simp [val,iG.val,UA]
    ·exact rowN_val _
   have e:=ZL s k.1 hk
   rw [<- iE s k.1 hk] at e
   obtain ⟨e1,e2⟩:=div_step (val (s.drop (k.1 + 1))) B (KC s k.1) hB
   obtain ⟨e3,_⟩:=div_word (H:=val (s.drop (k.1 + 1))) hB (dG s k.1)
   refine ⟨by simp [EJ,h1],?_,?_⟩
   ·simp only [EJ,hr]
    have e4:=ZL (p.1.set k.1 (u32 (((KC s k.1 + 4294967296 * (val (s.drop (k.1 + 1)) % B)) / B:Nat):Int))) k.1 (by rw [List.length_set];omega)
    rw [e4,List.getElem_set_self,YG,List.drop_set_of_lt (by omega),h2,e]
    show _ = (KC s k.1 + W * val (s.drop (k.1 + 1))) / B
    rw [e1,Nat.mod_eq_of_lt e3]
   ·simp only [EJ,hr,if_neg (Nat.ne_of_lt hk)]
    rw [e]
    show _ = iC ((KC s k.1 + W * val (s.drop (k.1 + 1))) % B)
    rw [e2])
 obtain ⟨h1,h2,h3⟩:=h
 refine ⟨by simpa using h2,h1,?_⟩
 rw [h3]
 simp only [List.drop_zero]
 by_cases hz:s.length = 0
 ·simp [hz]
 ·rw [if_neg (fun e=>hz e.symm),if_neg hz]
theorem GM (a b:iG) (ha:(UA a).length <= 100000000) (hb:(UA b).length <= 90000000) (h0:b.val ≠ 0) :
  YA Tryz.prog 88 [aN a,aN b] (.ret (.tup [aN (iC (a.val / b.val)),aN (if a.val = 0 then QA else iC (a.val % b.val)),aI 0])):=by
 refine WA (rs:=[(RV.tmp 4),(RV.tmp 5),(RV.tmp 6)]) Tryz.func88 (fun a w=>Tryz.call88 a w) body88 cc88 (by kernel_rfl) ?_
 rw [Tryz.ntmps88]
 simp only [pC,nA,nS]
 have hta:=jF a (by omega)
 have htb:=jF b (by omega)
 change YA _ _ _ (.ret (aN (KD a))) at hta
 change YA _ _ _ (.ret (aN (KD b))) at htb
 have hsa:=SF a
 have hsb:=SF b
 have hla:=NC a
 have hlb:=NC b
 rw [<- hsa] at hla
 rw [<- hsb] at hlb
 have hva:val (UA (KD a)) = a.val:=by rw [hsa,FC]
 have hvb:(KD b).val = b.val:=by show val (UA (KD b)) = _;rw [hsb,FC]
 have hdb:DB b.val = UA (KD b):=hsb.symm
 have hlen:(UA (KD b)).length ≠ 0:=fun e=>h0 (by rw [<- hvb];have e2:=List.length_eq_zero_iff.1 e;show val (UA (KD b)) = 0;rw [e2];rfl)
 have hz:(UA (KD a)).length = 0 ↔ a.val = 0:=by rw [hsa,List.length_eq_zero_iff,cG]
 generalize KD a = s at *
 generalize KD b = t at *
 repeat (first | (with_reducible first | refine W8 ?_ | refine VA rfl ?_) | ((with_reducible refine X8 fun K hK=>?_);simp (disch:=first | omega | simp only [sB];omega) only [qB,reduceIte,reduceCtorEq,iT,nA,nS,nM,iA,iS,iM,iN,fU,repU];subst hK) | refine KB (hta) rfl rfl rfl ?_ | refine KB (htb) rfl rfl rfl ?_ | refine KB (PL _) rfl rfl rfl ?_)
 refine awp_fold (IN s (by omega)) rfl (by simp [wE]) (fun (p:List UInt32 × iG)=>[⟨0,44,1,[[.c (nr t)]],SA,SA⟩,⟨0,140,1,wB fU p.1,SA,SA⟩,⟨0,44,1,[[.own 1 0]],SA,SA⟩,⟨0,44,1,[[.c (nr p.2)]],SA,SA⟩]) (EJ (UA s) b.val)
  (fun _ p=>p.1.length = (UA s).length /\ p.2.val < b.val /\ (UA p.2).length <= (UA t).length) (jA (UA s).length 0,QA) rfl ⟨tA,by show 0 < _;omega,by simp [UA]⟩ ?_ ?_
 ·rintro i ⟨out,rest⟩ k _ ⟨hl,hr,hrl⟩
  dsimp only at hl hr hrl
  have hk:=k.2
  have hd:=dG (UA s) k.1
  have hdx:=iE (UA s) k.1 hk
  obtain ⟨x,hx⟩:∃ x,x = (UA s)[k.1]'k.2:=⟨_,rfl⟩
  rw [show backAV (UA s) k = [aI (k.1:Int),aU32 (x.toNat:Nat)] from by rw [hx]]
  rw [<- hx] at hdx
  have hst:EJ (UA s) b.val (out,rest) k = (out.set k.1 (u32 (((x.toNat + 4294967296 * rest.val) / b.val:Nat):Int)),iC ((x.toNat + 4294967296 * rest.val) % b.val)):=by unfold EJ;rw [hdx]
  rw [hst]
  dsimp only
  have ht:=jF (PA (x :: UA rest)) (by simp only [osl_some,oA];omega)
  change YA _ _ _ (.ret (aN (iC (x.toNat + 4294967296 * rest.val)))) at ht
  have hX:=x.toNat_lt
  have hrb:rest.val + 1 <= b.val:=hr
  have hB:x.toNat + 4294967296 * rest.val < b.val * 4294967296:=by omega
  have hqW:(x.toNat + 4294967296 * rest.val) / b.val < 4294967296:=Nat.div_lt_of_lt_mul hB
  have hmB:(x.toNat + 4294967296 * rest.val) % b.val < b.val:=Nat.mod_lt _ (by omega)
  generalize x.toNat + 4294967296 * rest.val = X at *
  have hI:(out.set k.1 (u32 ((X / b.val:Nat):Int))).length = (UA s).length /\ (iC (X % b.val)).val < b.val /\ (UA (iC (X % b.val))).length <= (UA t).length :=
   ⟨by rw [List.length_set];exact hl,by rw [rowN_val];exact hmB,by rw [xD,<- hdb];exact mC (Nat.le_of_lt hmB)⟩
  have mk1:[[Cell.c (CV.val (.int .u32 (x.toNat:Int)))]] = wB fU [x]:=rfl
  have hdl:(DB X).length <= (UA t).length + 1:=by
   have h1:=wK b.val 32 (by omega)
   rw [hdb] at h1
   exact GA (mC (b:=b.val * 2 ^ 32) (by omega)) h1
  simp only [mvT,VG,rnd,nA]
  by_cases hone:(UA t).length = 1
  ·obtain ⟨d,hd1⟩:=List.length_eq_one_iff.1 hone
   have hbd:b.val = d.toNat:=by rw [<- hvb];show val (UA t) = _;rw [hd1];simp [val]
   have hdlt:=d.toNat_lt
   have hd0:(UA t)[0].toNat = b.val:=by rw [hbd];simp only [hd1,List.getElem_cons_zero]
   have hsm:=small_C (iC X) (by rw [xD];omega) (by rw [rowN_val];omega)
   rw [rowN_val] at hsm
   have hof:=of_C (X % b.val) (by omega)
   have hq:(X:Int).tdiv (b.val:Int) = ((X / b.val:Nat):Int):=by rw [iJ (by omega)];simp
   have hm:(X:Int).tmod (b.val:Int) = ((X % b.val:Nat):Int):=by rw [gJ (by omega)];simp
   generalize X / b.val = Qt at *
   generalize X % b.val = Rm at *
   repeat (first | (with_reducible first | refine W8 ?_ | refine VA rfl ?_) | ((with_reducible refine X8 fun K hK=>?_);simp (disch:=first | omega | simp only [sB];omega) only [qB,reduceIte,reduceCtorEq,iT,nA,nS,nM,iA,iS,iM,iN,fU,mk1,XC,hd0,hq,hm,RH,setU];subst hK) | refine zqR (ht) ?_ | refine KB (hsm) rfl rfl rfl ?_ | refine KB (hof) rfl rfl rfl ?_)
   refine ⟨_,⟨rfl,?hI1⟩,_,TB.head (EA _) [] rfl ?hH1⟩
   case hH1=>first | (simp (disch:=omega) only [pD,IB,lB,XA,clean1,uB,reduceIte,iS,iA,iN];done) | rfl
   exact hI
  ·have hdg:=digit_C X t (by omega) (by omega) (by rw [hvb];omega)
   rw [hvb,u32_of hqW] at hdg
   repeat (first | (with_reducible first | refine W8 ?_ | refine VA rfl ?_) | ((with_reducible refine X8 fun K hK=>?_);simp (disch:=first | omega | simp only [sB];omega) only [qB,reduceIte,reduceCtorEq,iT,nA,nS,nM,iA,iS,iM,iN,fU,mk1,XC,setU];subst hK) | refine zqR (ht) ?_ | refine KB (hdg) rfl rfl rfl ?_)
   refine ⟨_,⟨rfl,?hI2⟩,_,TB.head (EA _) [] rfl ?hH2⟩
   case hH2=>first | (simp (disch:=omega) only [pD,IB,lB,XA,clean1,uB,reduceIte,iS,iA,iN];done) | rfl
   exact hI
 ·rintro ⟨h1,h2,h3⟩
  obtain ⟨e1,e2,e3⟩:=dm_fold (UA s) b.val (by omega) (jA (UA s).length 0) tA
  generalize (downs (UA s).length (UA s).length).foldl (EJ (UA s) b.val) (jA (UA s).length 0,QA) = r at *
  obtain ⟨out,rest⟩:=r
  dsimp only at *
  have ht:=jF (PA out) (by simp only [osl_some];omega)
  rw [Option.map_some] at ht
  repeat (first | (with_reducible first | refine W8 ?_ | refine VA rfl ?_) | ((with_reducible refine X8 fun K hK=>?_);simp (disch:=first | omega | simp only [sB];omega) only [qB,reduceIte,reduceCtorEq,iT,nA,nS,nM,iA,iS,iM,iN,fU];subst hK) | refine zqR (ht) ?_)
  refine ⟨_,rfl,?_⟩
  rw [hva] at e1 e3
  rw [e1,e3]
  simp only [hz]
  exact rfl
end Go.Proofs.YtncgbjhojbnecaaGreat
namespace Go.Proofs.YtncgbjhojbnecaaGreat
open Go Go.Am Go.Proofs Go.Off
open Nat renaming reduceAdd -> nA,reduceSub -> nS,reduceMul -> nM,reduceBEq -> nB
open Int renaming reduceToNat -> iT,reduceAdd -> iA,reduceSub -> iS,reduceMul -> iM,reduceNeg -> iN
abbrev c87_k1:CC:=(.seq (.reg [(mV 24 0),(mV 4 24)]) .ret)
abbrev c87_b1:CC:=(.seq (.seq (.reg [(mV 12 1),(nL 13 12),(bC 14 .gtr 13 0)]) (.cond (tP 14) .skip (.exit 0))) (.block 1 (.seq (.reg [(mV 16 0),(mV 17 1),(oD 18 (.callf (.func 88) [(tP 16),(tP 17)])),(mV 15 18),(eX 19 15 0),(eX 20 15 1),(eX 21 15 2),(mV 5 19),(mV 6 20),(mV 7 21)]) (.reg [(mV 22 1),(mV 23 6),(mV 0 22),(mV 1 23)]))))
abbrev c87:CC:=(.seq (.reg [(oD 4 (.mv nC))]) (.seq (.reg [(mV 8 0),(oD 9 (.callf (.func 92) [(tP 8)])),(mV 10 1),(oD 11 (.callf (.func 92) [(tP 10)])),(mV 0 9),(mV 1 11)]) (.seq (.block 0 (.loop c87_b1)) c87_k1)))
theorem cc87:ZA Tryz.prog [] (Tryz.f87.body.getD .skip) = PA c87:=by kernel_rfl
theorem body87:Tryz.f87.body = PA (Tryz.f87.body.getD .skip):=rfl
theorem gcd_C (a b:iG) (ha:(UA a).length <= 80000000) (hb:(UA b).length <= 80000000) (h0:b.val ≠ 0):YA Tryz.prog 87 [aN a,aN b] (.ret (aN (iC (Nat.gcd a.val b.val)))):=by
 refine WA (rs:=[(RV.tmp 4)]) Tryz.func87 (fun a w=>Tryz.call87 a w) body87 cc87 (by kernel_rfl) ?_
 rw [Tryz.ntmps87]
 simp only [pC,nA,nS]
 have hta:=jF a (by omega)
 have htb:=jF b (by omega)
 change YA _ _ _ (.ret (aN (KD a))) at hta
 change YA _ _ _ (.ret (aN (KD b))) at htb
 have hsa:=SF a
 have hsb:=SF b
 have hla:=NC a
 have hlb:=NC b
 rw [<- hsa] at hla
 rw [<- hsb] at hlb
 have hva:(KD a).val = a.val:=by show val (UA (KD a)) = _;rw [hsa,FC]
 have hvb:(KD b).val = b.val:=by show val (UA (KD b)) = _;rw [hsb,FC]
 have hrb:KD b = iC b.val:=by
  cases b with
  | none=>exact absurd rfl h0
  | some l=>rfl
 generalize KD a = s at *
 repeat (first | (with_reducible first | refine W8 ?_ | refine VA rfl ?_) | ((with_reducible refine X8 fun K hK=>?_);simp (disch:=first | omega | simp only [sB];omega) only [qB,reduceIte,reduceCtorEq,iT,nA,nS,nM,iA,iS,iM,iN,fU];subst hK) | refine KB (hta) rfl rfl rfl ?_ | refine KB (htb) rfl rfl rfl ?_)
 refine xB (fun (zz:iG × iG)=>⟨(aN zz.1 :: aN zz.2 :: .junk :: .junk :: .one (.c (.val (.slice QA 0 0))) :: L8 (J4 ([]))),[]⟩) (fun (zz:iG × iG)=>Nat.gcd zz.1.val zz.2.val = Nat.gcd a.val b.val /\ UA zz.2 = DB zz.2.val /\ (zz.2.val ≠ 0 -> zz.2 = iC zz.2.val) /\ (zz.2.val = 0 -> zz.1 = iC zz.1.val) /\ (UA zz.1).length <= 80000000 /\ (UA zz.2).length <= 80000000) (fun (zz:iG × iG)=>zz.2.val) (s,KD b) ?hI1 (TB.headA (EA _) [SA,SA,TA,TA,SA]) ?hB1
 ·dsimp only
  exact ⟨by rw [hva,hvb],by rw [hvb];exact hsb,fun _=>by rw [hvb];exact hrb,fun h=>absurd (hvb ▸ h) h0,by omega,by omega⟩
 rintro ⟨A,B⟩ ⟨hg,hB,hB1,hB2,hlA,hlB⟩
 dsimp only at hg hB hB1 hB2 hlA hlB
 by_cases hz:B.val = 0
 ·have hl:(UA B).length = 0:=by rw [hB,hz,zC];rfl
  repeat (first | (with_reducible first | refine W8 ?_ | refine VA rfl ?_) | ((with_reducible refine X8 fun K hK=>?_);simp (disch:=first | omega | simp only [sB];omega) only [qB,reduceIte,reduceCtorEq,iT,nA,nS,nM,iA,iS,iM,iN,fU];subst hK))
  refine ⟨_,rfl,?_⟩
  rw [hz,Nat.gcd_zero_right] at hg
  rw [<- hg,<- hB2 hz]
  exact rfl
 ·have hl:(UA B).length ≠ 0:=by rw [hB];exact Nat.ne_of_gt (VE hz)
  have hdm:=GM A B (by omega) (by omega) hz
  have hmod:=Nat.mod_lt A.val (Nat.pos_of_ne_zero hz)
  obtain ⟨R,hR⟩:∃ R:iG,(if A.val = 0 then QA else iC (A.val % B.val)) = R:=⟨_,rfl⟩
  rw [hR] at hdm
  have hRv:R.val = A.val % B.val:=by
   rw [<- hR];split
   ·rename_i h;rw [h,Nat.zero_mod];rfl
   ·exact rowN_val _
  have hRd:UA R = DB R.val:=by
   rw [hRv,<- hR];split
   ·rename_i h;rw [h,Nat.zero_mod,zC];rfl
   ·rfl
  have hR1:R.val ≠ 0 -> R = iC R.val:=fun h=>by
   rw [hRv,<- hR]
   rw [if_neg]
   intro h2;apply h;rw [hRv,h2,Nat.zero_mod]
  repeat (first | (with_reducible first | refine W8 ?_ | refine VA rfl ?_) | ((with_reducible refine X8 fun K hK=>?_);simp (disch:=first | omega | simp only [sB];omega) only [qB,reduceIte,reduceCtorEq,iT,nA,nS,nM,iA,iS,iM,iN,fU];subst hK) | refine KB (hdm) rfl rfl rfl ?_)
  refine ⟨(B,R),?hI2,?hM2,TB.headA (EA _) [SA,SA,TA,TA,SA]⟩
  ·dsimp only
   refine ⟨by rw [hRv,gcd_step,hg],hRd,hR1,fun _=>hB1 hz,hlB,?_⟩
   rw [hRd,hRv]
   have:=mC (Nat.le_of_lt hmod)
   rw [<- hB] at this
   omega
  ·dsimp only;omega
end Go.Proofs.YtncgbjhojbnecaaGreat
