/- No table of the program's is read here. -/
import Derived.Test.YtncgbjhojbnecaaProg
import Derived.KernelRfl
import Derived.IntWalk
import Derived.RangeFuncBox
import Derived.RangeFuncBound
import Derived.Shelf.Abstract
import Derived.WalkKit
import Derived.OwnWalkIn
import Derived.TacticsInMore
import Derived.LoopNIn
import Derived.LoopIn
import Derived.Test.YtncgbjhojbnecaaA5
import Derived.Test.YtncgbjhojbnecaaB1
set_option linter.unusedSimpArgs false
set_option linter.unusedVariables false
set_option linter.unnecessarySimpa false
set_option maxRecDepth 100000
set_option maxHeartbeats 4000000
namespace Go.Proofs.Ytncgbjhojbnecaa
open Go Go.Am
instance:Glb:=⟨fun _=>none⟩
end Go.Proofs.Ytncgbjhojbnecaa
namespace Go.Proofs.Ytncgbjhojbnecaa
open Go Go.Am Go.Proofs Go.Off
open Nat renaming reduceAdd -> nA,reduceSub -> nS,reduceMul -> nM,reduceBEq -> nB
open Int renaming reduceToNat -> iT,reduceAdd -> iA,reduceSub -> iS,reduceMul -> iM,reduceNeg -> iN
theorem mixed:Try.prog.follows .mixedOrders = true:=by kernel_rfl
instance:Mixed Try.prog:=⟨mixed⟩
def fU (d:UInt32):List CV:=[.val (.int .u32 (d.toNat:Int))]
abbrev nr (a:Row):CV:=encSl 1 fU a
abbrev aN (a:Row):AV:=.one (.c (nr a))
abbrev aI (n:Int):AV:=.one (.c (.val (.int .i64 n)))
abbrev aB (b:Bool):AV:=.one (.c (.val (.bool b)))
abbrev aU (n:Int):AV:=.one (.c (.val (.int .u64 n)))
abbrev c96:CC:=(.seq (.reg [⟨some 2,none,.mv (.const (.slice none 0 0))⟩]) (.seq (.seq (.reg [⟨some 3,none,.mv (.tmp 0)⟩,⟨some 4,none,.isnil false false (.tmp 3)⟩]) (.cond (.tmp 4) (.seq (.reg [⟨some 2,none,.mv (.const (.slice none 0 0))⟩]) .ret) .skip)) (.seq (.reg [⟨some 5,none,.mkrow 118 1 []⟩,⟨some 6,none,.mv (.tmp 0)⟩,⟨some 7,none,.append 118 1 4 (.tmp 5) (.tmp 6)⟩,⟨some 2,none,.mv (.tmp 7)⟩]) .ret)))
theorem cc96:ccode Try.prog [] (Try.f96.body.getD .skip) = some c96:=by kernel_rfl
theorem body96:Try.f96.body = some (Try.f96.body.getD .skip):=rfl
abbrev c80_k1:CC:=(.seq (.reg [⟨some 18,none,.mv (.tmp 0)⟩,⟨some 19,none,.mv (.tmp 3)⟩,⟨some 20,none,.slice 1 (.tmp 18) none (some (.tmp 19)) none⟩,⟨some 21,none,.callf (.func 96) [(.tmp 20)]⟩,⟨some 2,none,.mv (.tmp 21)⟩]) .ret)
abbrev c80_b1:CC:=(.seq (.seq (.reg [⟨some 6,none,.mv (.tmp 3)⟩,⟨some 7,none,.bin .gtr (.tmp 6) (.const (.int .i64 (0)))⟩,⟨some 8,none,.mv (.tmp 7)⟩,⟨some 9,(some (8,true)),.mv (.tmp 0)⟩,⟨some 10,(some (8,true)),.mv (.tmp 3)⟩,⟨some 11,(some (8,true)),.bin .sub (.tmp 10) (.const (.int .i64 (1)))⟩,⟨some 12,(some (8,true)),.iaddr 1 none (.tmp 9) (.tmp 11)⟩,⟨some 13,(some (8,true)),.load 1 false (.tmp 12)⟩,⟨some 14,(some (8,true)),.bin .eql (.tmp 13) (.const (.int .u32 (0)))⟩,⟨some 15,none,.pick (.tmp 8) (.tmp 14) (.const (.bool false))⟩]) (.cond (.tmp 15) .skip (.exit 0))) (.block 1 (.reg [⟨some 16,none,.mv (.tmp 3)⟩,⟨some 17,none,.bin .sub (.tmp 16) (.const (.int .i64 (1)))⟩,⟨some 3,none,.mv (.tmp 17)⟩])))
abbrev c80:CC:=(.seq (.reg [⟨some 2,none,.mv (.const (.slice none 0 0))⟩]) (.seq (.reg [⟨some 4,none,.mv (.tmp 0)⟩,⟨some 5,none,.len false (.tmp 4)⟩,⟨some 3,none,.mv (.tmp 5)⟩]) (.seq (.block 0 (.loop c80_b1)) c80_k1)))
theorem cc80:ccode Try.prog [] (Try.f80.body.getD .skip) = some c80:=by kernel_rfl
theorem body80:Try.f80.body = some (Try.f80.body.getD .skip):=rfl
abbrev c98:CC:=(.seq (.reg [⟨some 4,none,.mv (.const (.int .u64 (0)))⟩]) (.seq (.seq (.reg [⟨some 5,none,.mv (.tmp 1)⟩,⟨some 6,none,.mv (.tmp 0)⟩,⟨some 7,none,.len false (.tmp 6)⟩,⟨some 8,none,.bin .lss (.tmp 5) (.tmp 7)⟩]) (.cond (.tmp 8) (.seq (.reg [⟨some 9,none,.mv (.tmp 0)⟩,⟨some 10,none,.mv (.tmp 1)⟩,⟨some 11,none,.iaddr 1 none (.tmp 9) (.tmp 10)⟩,⟨some 12,none,.load 1 false (.tmp 11)⟩,⟨some 13,none,.conv .u64 (.tmp 12)⟩,⟨some 4,none,.mv (.tmp 13)⟩]) .ret) .skip)) (.seq (.reg [⟨some 4,none,.mv (.const (.int .u64 (0)))⟩]) .ret)))
theorem cc98:ccode Try.prog [] (Try.f98.body.getD .skip) = some c98:=by kernel_rfl
theorem body98:Try.f98.body = some (Try.f98.body.getD .skip):=rfl
theorem clone_nil:PureC Try.prog 96 [aN none] (.ret (aN none)):=by
 refine pureC_of (rs:=[(RV.tmp 2)]) Try.func96 (fun a w=>Try.call96 a w) body96 cc96 (by kernel_rfl) ?_
 rw [Try.ntmps96]
 simp only [frs,nA,nS]
 repeat (first | (with_reducible first | refine Way.imp ?_ | refine blk_o rfl ?_) | ((with_reducible refine WayR.imp (fun K hK=>?_));simp (disch:=first | omega | (simp only [dls];omega)) only [std,reduceIte,reduceCtorEq,iT,nA,nS,nM,iA,iS,iM,iN,fU,Option.isNone];subst hK))
 exact ⟨_,rfl,Ends.ret_c⟩
theorem clone_C (l:List UInt32) (hl:l.length <= 2000000000):PureC Try.prog 96 [aN (some l)] (.fresh 118 1 (l.map fU) true):=by
 refine pureC_of (rs:=[(RV.tmp 2)]) Try.func96 (fun a w=>Try.call96 a w) body96 cc96 (by kernel_rfl) ?_
 rw [Try.ntmps96]
 simp only [frs,nA,nS]
 repeat (first | (with_reducible first | refine Way.imp ?_ | refine blk_o rfl ?_) | ((with_reducible refine WayR.imp (fun K hK=>?_));simp (disch:=first | omega | (simp only [dls];omega)) only [std,reduceIte,reduceCtorEq,iT,nA,nS,nM,iA,iS,iM,iN,fU,Option.isNone];subst hK))
 exact ⟨_,rfl,Ends.fresh_enc rfl⟩
theorem at_C (a:Row) (k:Nat) (ha:(osl a).length <= 2000000000):PureC Try.prog 98 [aN a,aI k] (.ret (aU (dgt (osl a) k))):=by
 refine pureC_of (rs:=[(RV.tmp 4)]) Try.func98 (fun a w=>Try.call98 a w) body98 cc98 (by kernel_rfl) ?_
 rw [Try.ntmps98]
 simp only [frs,nA,nS]
 by_cases hk:k < (osl a).length
 ·have h1:=((osl a)[k]).toNat_lt
  repeat (first | (with_reducible first | refine Way.imp ?_ | refine blk_o rfl ?_) | ((with_reducible refine WayR.imp (fun K hK=>?_));simp (disch:=first | omega | (simp only [dls];omega)) only [std,reduceIte,reduceCtorEq,iT,nA,nS,nM,iA,iS,iM,iN,fU];subst hK))
  rw [dgt_eq _ _ hk]
  exact ⟨_,rfl,Ends.ret_c⟩
 ·repeat (first | (with_reducible first | refine Way.imp ?_ | refine blk_o rfl ?_) | ((with_reducible refine WayR.imp (fun K hK=>?_));simp (disch:=first | omega | (simp only [dls];omega)) only [std,reduceIte,reduceCtorEq,iT,nA,nS,nM,iA,iS,iM,iN,fU];subst hK))
  rw [show dgt (osl a) k = 0 from dif_neg hk]
  exact ⟨_,rfl,Ends.ret_c⟩
theorem trim_some (l:List UInt32) (ha:l.length <= 2000000000):PureC Try.prog 80 [aN (some l)] (.fresh 118 1 ((digits (val l)).map fU) true):=by
 refine pureC_of (rs:=[(RV.tmp 2)]) Try.func80 (fun a w=>Try.call80 a w) body80 cc80 (by kernel_rfl) ?_
 rw [Try.ntmps80]
 simp only [frs,nA,nS]
 repeat (first | (with_reducible first | refine Way.imp ?_ | refine blk_o rfl ?_) | ((with_reducible refine WayR.imp (fun K hK=>?_));simp (disch:=first | omega | (simp only [dls];omega)) only [std,reduceIte,reduceCtorEq,iT,nA,nS,nM,iA,iS,iM,iN,fU];subst hK))
 refine awp_loop (fun (zz:Nat)=>⟨(aN (some l) :: .junk :: .one (.c (.val (.slice none 0 0))) :: aI zz :: .junk :: .junk :: .junk :: .junk :: .junk :: .junk :: .junk :: .junk :: .junk :: .junk :: .junk :: .junk :: .junk :: .junk :: .junk :: .junk :: .junk :: .junk :: []),[]⟩) (fun (zz:Nat)=>zz <= l.length /\ val (l.take zz) = val l) (fun (zz:Nat)=>zz) (l.length) ?hI1 (Fgt.head (Nat.le_refl _) [true,false,true,true] ?hT1 ?hH1) ?hB1
 case hT1=>first | (simp (disch:=omega) only [hds,liveT,cleanAV,cleanCell,clean1,cleanBlk,reduceIte,iS,iA,iN];done) | rfl
 case hH1=>first | (simp (disch:=omega) only [hds,liveT,cleanAV,cleanCell,clean1,cleanBlk,reduceIte,iS,iA,iN];done) | rfl
 ·exact ⟨Nat.le_refl _,by rw [List.take_length]⟩
 rintro n ⟨hn,hv⟩
 by_cases h0:n = 0
 ·subst h0
  repeat (first | (with_reducible first | refine Way.imp ?_ | refine blk_o rfl ?_) | ((with_reducible refine WayR.imp (fun K hK=>?_));simp (disch:=first | omega | (simp only [dls];omega)) only [std,reduceIte,reduceCtorEq,iT,nA,nS,nM,iA,iS,iM,iN,fU];subst hK) | (apply call_new (clone_C [] (by simp)) rfl;(case hcl=>(simp only [evs,St.ev,constAV,evl];(repeat (first | exact closeAVs_nil | (apply closeAVs_cons;(first | (refine close_own3 rfl (by decide)) | (refine close_ownO rfl (by decide) ?_;assumption) | rfl))));done));(case hu=>(simp only [evs,St.ev,constAV,evl];(repeat (first | exact used_nil | (apply used_cons;(first | (apply used_own3;rfl) | rfl))));done));(case hh=>((simp only [fzl,nB,nA,Bool.false_eq_true,if_true,if_false,reduceIte]) <;> rfl))))
  refine ⟨_,rfl,?_⟩
  rw [<- hv,show digits (val (l.take 0)) = [] from digits_zero]
  exact Ends.fresh_enc rfl
 ·have hlt:n - 1 < l.length:=by omega
  have hi:((n:Int) - 1).toNat = n - 1:=by omega
  have hn1:n - 1 + 1 = n:=by omega
  by_cases hz:l[n - 1].toNat = 0
  ·repeat (first | (with_reducible first | refine Way.imp ?_ | refine blk_o rfl ?_) | ((with_reducible refine WayR.imp (fun K hK=>?_));simp (disch:=first | omega | (simp only [dls];omega)) only [std,reduceIte,reduceCtorEq,iT,nA,nS,nM,iA,iS,iM,iN,fU,hi,hz];subst hK))
   have hc:((n - 1:Nat):Int) = (n:Int) - 1:=by omega
   refine ⟨(n - 1),?hI2,?hM2,Fgt.head (Nat.le_refl _) [true,false,true,true] ?hT2 ?hH2⟩
   case hT2=>first | (simp (disch:=omega) only [hds,liveT,cleanAV,cleanCell,clean1,cleanBlk,reduceIte,iS,iA,iN,hc];done) | rfl
   case hH2=>first | (simp (disch:=omega) only [hds,liveT,cleanAV,cleanCell,clean1,cleanBlk,reduceIte,iS,iA,iN,hc];done) | rfl
   ·refine ⟨by omega,?_⟩
    have:=val_take_succ l (n - 1) hlt
    rw [hn1,hz] at this
    rw [<- hv,this]
    simp
   ·exact (by omega)
  ·repeat (first | (with_reducible first | refine Way.imp ?_ | refine blk_o rfl ?_) | ((with_reducible refine WayR.imp (fun K hK=>?_));simp (disch:=first | omega | (simp only [dls];omega)) only [std,reduceIte,reduceCtorEq,iT,nA,nS,nM,iA,iS,iM,iN,fU,hi];subst hK) | (apply call_new (clone_C (l.take n) (by simp;omega)) rfl;(case hcl=>(simp only [evs,St.ev,constAV,evl];(repeat (first | exact closeAVs_nil | (apply closeAVs_cons;(first | (refine close_own3 rfl (by decide)) | (refine close_ownO rfl (by decide) ?_;assumption) | rfl))));done));(case hu=>(simp only [evs,St.ev,constAV,evl];(repeat (first | exact used_nil | (apply used_cons;(first | (apply used_own3;rfl) | rfl))));done));(case hh=>((simp only [fzl,nB,nA,Bool.false_eq_true,if_true,if_false,reduceIte]) <;> rfl))))
   refine ⟨_,rfl,?_⟩
   have ht:Off.trimmed (l.take n):=fun hne=>by
    rw [List.getLast_eq_getElem]
    simp only [List.length_take,Nat.min_eq_left hn,List.getElem_take]
    exact fun e=>hz (by rw [e];rfl)
   rw [<- hv,digits_val ht]
   exact Ends.fresh_enc rfl
theorem trim_none:PureC Try.prog 80 [aN none] (.ret (aN none)):=by
 refine pureC_of (rs:=[(RV.tmp 2)]) Try.func80 (fun a w=>Try.call80 a w) body80 cc80 (by kernel_rfl) ?_
 rw [Try.ntmps80]
 simp only [frs,nA,nS]
 repeat (first | (with_reducible first | refine Way.imp ?_ | refine blk_o rfl ?_) | ((with_reducible refine WayR.imp (fun K hK=>?_));simp (disch:=first | omega | (simp only [dls];omega)) only [std,reduceIte,reduceCtorEq,iT,nA,nS,nM,iA,iS,iM,iN,fU];subst hK))
 refine awp_loop (fun (zz:Unit)=>⟨(aN none :: .junk :: .one (.c (.val (.slice none 0 0))) :: aI 0 :: .junk :: .junk :: .junk :: .junk :: .junk :: .junk :: .junk :: .junk :: .junk :: .junk :: .junk :: .junk :: .junk :: .junk :: .junk :: .junk :: .junk :: .junk :: []),[]⟩) (fun (zz:Unit)=>True) (fun (zz:Unit)=>0) (()) ?hI3 (Fgt.head (Nat.le_refl _) [true,false,true,true] ?hT3 ?hH3) ?hB3
 case hT3=>first | (simp (disch:=omega) only [hds,liveT,cleanAV,cleanCell,clean1,cleanBlk,reduceIte,iS,iA,iN];done) | rfl
 case hH3=>first | (simp (disch:=omega) only [hds,liveT,cleanAV,cleanCell,clean1,cleanBlk,reduceIte,iS,iA,iN];done) | rfl
 ·trivial
 rintro _ _
 repeat (first | (with_reducible first | refine Way.imp ?_ | refine blk_o rfl ?_) | ((with_reducible refine WayR.imp (fun K hK=>?_));simp (disch:=first | omega | (simp only [dls];omega)) only [std,reduceIte,reduceCtorEq,iT,nA,nS,nM,iA,iS,iM,iN,fU];subst hK) | refine zcA (clone_nil) rfl rfl rfl ?_)
 exact ⟨_,rfl,Ends.ret_c⟩
theorem trim_C (a:Row) (ha:(osl a).length <= 2000000000):PureC Try.prog 80 [aN a] (.ret (aN (a.map fun l=>digits (val l)))):=by
 cases a with
 | none=>exact trim_none
 | some l=>exact (trim_some l ha).fresh_ret
end Go.Proofs.Ytncgbjhojbnecaa
namespace Go.Proofs.Ytncgbjhojbnecaa
open Go Go.Am Go.Proofs Go.RowKit Go.Shelf Go.Off
open Nat renaming reduceAdd -> nA,reduceSub -> nS,reduceMul -> nM,reduceBEq -> nB
open Int renaming reduceToNat -> iT,reduceAdd -> iA,reduceSub -> iS,reduceMul -> iM,reduceNeg -> iN
attribute [local go_sem] Oper.semAt_some
def downs (len m:Nat):List (Fin len):=(List.finRange len).reverse.take m
theorem downs_succ (len:Nat) (k:Nat) (hk:k < len):downs len (len - k) = downs len (len - (k + 1)) ++ [⟨k,hk⟩]:=by
 have e:len - k = (len - (k + 1)) + 1:=by omega
 unfold downs
 rw [e,List.take_add_one]
 congr 1
 have hlt:len - (k + 1) < ((List.finRange len).reverse).length:=by simp;omega
 rw [List.getElem?_eq_getElem hlt]
 simp only [Option.toList_some,List.cons.injEq,and_true]
 rw [List.getElem_reverse]
 simp only [List.getElem_finRange,List.length_finRange]
 apply Fin.ext
 simp
 omega
theorem downs_len (len m:Nat) (h:m <= len):(downs len m).length = m:=by simp [downs];omega
theorem kp_cell {w A B:World} {bad:Nat -> Prop} (k:KpOf w bad A B) {p:Addr} {v:Value} (hlt:p.block < w.heap.size) (hb:¬ bad p.block) (h:A.cell? p = some v):B.cell? p = some v:=by
 unfold World.cell? at h ⊢
 split at h
 ·rename_i cs t o hg
  rw [k.2 _ hlt hb _ _ _ hg]
  exact h
 ·cases h
set_option maxRecDepth 100000 in
set_option maxHeartbeats 2000000 in
theorem back1_in (F:Fence) (hF:F.fn 101) (hro:F.round = none) (n:Nat) (hn:1 <= n) (l Bs os b off len cap:Nat) (w:World) (bad:Nat -> Prop) (f:Nat -> Int) (hlen:len <= 1000000000000) (hBsl:Bs < w.heap.size) (hBsn:¬ bad Bs) (hbl:b < w.heap.size) (hbn:¬ bad b) (J Jx:List (Fin len) -> World -> Prop)
  (hY:∀ pre (x:Fin len) W,J pre W -> pre.length < len -> YieldAt F (n - 1) Try.prog l #[.int .i64 (x.1:Int),.int .u32 (f x.1)] W fun e W' =>
   (e = .returned (.bool true) /\ J (pre ++ [x]) W' /\ KpOf w bad W W') \/ (e = .returned (.bool false) /\ Jx (pre ++ [x]) W'))
  (W:World) (hBs:W.cell? ⟨Bs,os,none⟩ = some (.slice (some ⟨b,off,none⟩) len cap)) (hc:∀ j,j < len -> W.cell? ⟨b,off + j,none⟩ = some (.int .u32 (f j))) (h0:J [] W) :
  CallsIn F n Try.prog 101 #[.func (.yield l) #[] #[],.pointer (some ⟨Bs,os,none⟩)] W fun e W'=>(∃ v,e = .returned v) /\
   ((∃ ys,ys = downs len len /\ J ys W') \/ (∃ pre,(∃ k,k <= len /\ pre = downs len k) /\ Jx pre W')):=by
 refine callsIn_of_wp Try.func101 rfl hF ?_ hro
 simp only [Try.ntmps101,List.size_toArray,List.length_cons,List.length_nil,nA,nS,Array.replicate_succ,Array.replicate_zero,List.push_toArray,List.append_toArray,List.nil_append,List.cons_append]
 gi_wp2
 gi_loopw [3] (fun i wr=>∃ k:Nat,k <= len /\ i = .int .i64 ((k:Int) - 1) /\ J (downs len (len - k)) wr /\ KpOf w bad W wr)
  (fun i _=>((intOf i) + 1).toNat)
 case atStart=>exact ⟨len,Nat.le_refl _,rfl,by simpa [downs] using h0,⟨Nat.le_refl _,fun _ _ _ _ _ _ h=>h⟩⟩
 case round =>
  obtain ⟨k,hk,rfl,hJs,hnx⟩:=hrel
  cases k with
  | zero =>
   gi_wp2
   go_end0
   exact ⟨⟨_,rfl⟩,.inl ⟨_,rfl,by simpa using hJs⟩⟩
  | succ k =>
   have hcb:wr.cell? ⟨Bs,os,none⟩ = some (.slice (some ⟨b,off,none⟩) len cap):=kp_cell hnx hBsl hBsn hBs
   have hcx:wr.cell? ⟨b,off + k,none⟩ = some (.int .u32 (f k)):=kp_cell hnx hbl hbn (hc k (by omega))
   obtain ⟨fn,tmps,assign,body,hy,hR⟩:=hY _ ⟨k,by omega⟩ wr hJs (by rw [downs_len _ _ (by omega)];omega)
   dsimp only at hy
   have e1:((k + 1:Nat):Int) - 1 = (k:Int):=by omega
   rw [e1]
   gi_wp2
   refine hR.mono ?_
   rintro e W3 (⟨rfl,hJ3,hk3⟩ | ⟨rfl,hJx3⟩)
   ·gi_wp2
    go_roundw
    case rel=>exact ⟨k,by omega,rfl,by rw [downs_succ len k (by omega)];exact hJ3,⟨Nat.le_trans hnx.1 hk3.1,fun g hg hb cs t o h=>hk3.2 g hg hb cs t o (hnx.2 g hg hb cs t o h)⟩⟩
    case measure=>simp [intOf]
   ·gi_wp2
    refine bodyPost_ret (results_none rfl _ _ _) rfl ?_
    exact ⟨⟨_,rfl⟩,.inr ⟨_,⟨len - k,by omega,(downs_succ len k (by omega)).symm⟩,hJx3⟩⟩
set_option maxRecDepth 100000 in
set_option maxHeartbeats 2000000 in
theorem back1_nil_in (F:Fence) (hF:F.fn 101) (hro:F.round = none) (n:Nat) (l Bs os:Nat) (p:Option Addr) (J:List (Fin 0) -> World -> Prop) (W:World) (hBs:W.cell? ⟨Bs,os,none⟩ = some (.slice p 0 0)) (h0:J [] W) :
  CallsIn F n Try.prog 101 #[.func (.yield l) #[] #[],.pointer (some ⟨Bs,os,none⟩)] W fun e W'=>(∃ v,e = .returned v) /\ J [] W':=by
 refine callsIn_of_wp Try.func101 rfl hF ?_ hro
 simp only [Try.ntmps101,List.size_toArray,List.length_cons,List.length_nil,nA,nS,Array.replicate_succ,Array.replicate_zero,List.push_toArray,List.append_toArray,List.nil_append,List.cons_append]
 gi_wp2
 gi_loopw [3] (fun i wr=>i = .int .i64 (-1) /\ J [] wr) (fun _ _=>0)
 case atStart=>exact ⟨rfl,h0⟩
 case round =>
  obtain ⟨rfl,hJs⟩:=hrel
  gi_wp2
  go_end0
  exact ⟨⟨_,rfl⟩,hJs⟩
theorem callsIn_n {P:Program} {rd:Option Nat} {n:Nat} {f:FuncId} {args:Array Value} {w:World} {R:Ending -> World -> Prop} (h:CallsIn (Wd rd) n P f args w R) (m:Nat):CallsIn (Wd rd) m P f args w R :=
 ⟨h.1,fun cs _=>h.2 cs (fun d hd=>by cases hd)⟩
theorem yieldAt_n {P:Program} {rd:Option Nat} {n l:Nat} {args:Array Value} {w:World} {R:Ending -> World -> Prop} (h:YieldAt (Wd rd) n P l args w R) (m:Nat):YieldAt (Wd rd) m P l args w R:=by
 obtain ⟨fn,tmps,assign,body,h1,h2,h3⟩:=h
 exact ⟨fn,tmps,assign,body,h1,h2,fun c cs _=>h3 c cs (fun d hd=>by cases hd)⟩
abbrev aU32 (n:Int):AV:=.one (.c (.val (.int .u32 n)))
abbrev backAV (l:List UInt32) (k:Fin l.length):List AV:=[aI (k.1:Int),aU32 ((l[k.1]'k.2).toNat:Int)]
theorem back_iter (a:Row) (hlen:(osl a).length <= 1000000000000) :
  IterC Try.prog 101 [.iptr [nr a]] (backAV (osl a)) 2 (fun xs=>xs = downs (osl a).length (osl a).length) (fun pre=>∃ k,k <= (osl a).length /\ pre = downs (osl a).length k) (osl a).length:=by
 refine ⟨fun a w=>Try.call101 a w,fun k=>rfl,fun w bad vs hbad hvs=>?_⟩
 obtain ⟨v0,rfl,hv0⟩:∃ v0,vs = [v0] /\ VR w bad [] hd00 (.iptr [nr a]) v0:=by
  match vs,hvs with
  | [v0],hvs=>exact ⟨v0,rfl,hvs.2 0 _ _ rfl rfl⟩
  | [],hvs=>exact absurd hvs.1 (by simp)
  | a :: b :: c,hvs=>exact absurd hvs.1 (by simp)
 refine ⟨fun k=>[.int .i64 (k.1:Int),.int .u32 ((((osl a)[k.1]'k.2).toNat:Nat):Int)],fun k=>.cons (.one _ _ (.c _ _ (.val _ rfl))) (.cons (.one _ _ (.c _ _ (.val _ rfl))) .nil),fun n=>?_⟩
 cases hv0 with
 | iptr _ Bs os f hBn hBl hc hv =>
  have hcell:=hc 0 (nr a) rfl
  have hcr:=hv 0 (nr a) rfl
  generalize f 0 = sv at hcell hcr
  clear hc hv
  intro ll J Jx W hW hJ hJx hY h0
  have hcW:W.cell? ⟨Bs,os,none⟩ = some sv:=(hW.cell (p:=⟨Bs,os,none⟩) hBl).trans hcell
  refine CallsIn.mono (R:=fun e W'=>(∃ v,e = .returned v) /\ ((∃ ys,ys = downs (osl a).length (osl a).length /\ J ys W') \/ (∃ pre,(∃ k,k <= (osl a).length /\ pre = downs (osl a).length k) /\ Jx pre W'))) ?_ (fun e W' h=>h)
  cases a with
  | none =>
   cases hcr
   refine (back1_nil_in (Wd none) trivial rfl n ll Bs os none J W hcW h0).mono ?_
   rintro e W' ⟨he,hj⟩
   exact ⟨he,.inl ⟨_,rfl,hj⟩⟩
  | some l =>
   change CR w bad (.sl 1 (l.map fU)) sv at hcr
   generalize hlm:l.map fU = lm at hcr
   cases hcr with
   | emp _ ad =>
    obtain rfl:l = []:=by simpa using hlm
    refine (back1_nil_in (Wd none) trivial rfl n ll Bs os (some ad) J W hcW h0).mono ?_
    rintro e W' ⟨he,hj⟩
    exact ⟨he,.inl ⟨_,rfl,hj⟩⟩
   | sl _ _ g off cap ff hcap hbadg hltg hrow hcs hvs' =>
    subst hlm
    have hff:∀ j (hj:j < l.length),ff j 0 = .int .u32 ((dgt l j:Nat):Int):=fun j hj=>by
     have h1:(l.map fU)[j]? = some [CV.val (.int .u32 ((dgt l j:Nat):Int))]:=by simp [fU,hj,dgt]
     have:=hvs' j 0 _ _ h1 rfl
     generalize ff j 0 = u at this
     cases this
     rfl
    rw [List.length_map] at hcW hcs
    have hlt:∀ j,j < l.length -> W.cell? ⟨g,off + j,none⟩ = some (.int .u32 ((dgt l j:Nat):Int)):=fun j hj=>by
     have h1:=hcs j 0 hj (by omega)
     rw [Nat.mul_one,Nat.add_zero,hff j hj] at h1
     exact (hW.cell (p:=⟨g,off + j,none⟩) hltg).trans h1
    refine callsIn_n (back1_in (Wd none) trivial rfl (n + 1) (by omega) ll Bs os g off l.length cap w bad (fun j=>((dgt l j:Nat):Int)) hlen hBl hBn hltg hbadg J Jx (fun pre x W1 hj hl=>?_) W hcW hlt h0) n
    have h1:=yieldAt_n (hY pre x W1 hj hl) n
    have h2:dgt l x.1 = (l[x.1]'x.2).toNat:=dgt_eq _ _ _
    simp only [h2]
    exact h1
abbrev c92:CC:=(.seq (.reg [⟨some 1,none,.box 37 (.tmp 0)⟩,⟨some 2,none,.mv (.const .nilFunc)⟩]) (.seq (.reg [⟨some 3,none,.mkfn 101 [(.tmp 1)]⟩,⟨some 2,none,.mv (.tmp 3)⟩]) .ret))
theorem cc92:ccode Try.prog [] (Try.f92.body.getD .skip) = some c92:=by kernel_rfl
theorem body92:Try.f92.body = some (Try.f92.body.getD .skip):=rfl
theorem backward_C (x:CV):PureC Try.prog 92 [.one (.c x)] (.ret (.one (.fn 101 [.iptr [x]]))):=by
 refine pureC_of (rs:=[(RV.tmp 2)]) Try.func92 (fun a w=>Try.call92 a w) body92 cc92 (by kernel_rfl) ?_
 rw [Try.ntmps92]
 simp only [frs,nA,nS]
 repeat (first | (with_reducible first | refine Way.imp ?_ | refine blk_o rfl ?_) | ((with_reducible refine WayR.imp (fun K hK=>?_));simp (disch:=first | omega | (simp only [dls];omega)) only [std,reduceIte,reduceCtorEq,iT,nA,nS,nM,iA,iS,iM,iN,fU];subst hK))
 exact ⟨_,rfl,rfl⟩
theorem mem_downs {n m:Nat} (hm:m <= n) (k:Fin n):k ∈ downs n m ↔ n - m <= k.1:=by
 induction m with
 | zero=>simp [downs]
 | succ m ih =>
  have h1:n - (n - (m + 1)) = m + 1:=by omega
  have h2:n - (n - (m + 1) + 1) = m:=by omega
  have:=downs_succ n (n - (m + 1)) (by omega)
  rw [h1,h2] at this
  rw [this,List.mem_append,ih (by omega),List.mem_singleton]
  constructor
  ·rintro (h | h)
   ·omega
   ·rw [h];exact Nat.le_refl _
  ·intro h
   by_cases he:k.1 = n - (m + 1)
   ·exact .inr (Fin.ext he)
   ·exact .inl (by omega)
theorem foldl_downs {β:Type} (n:Nat) (f:β -> Fin n -> β) (P:Nat -> β -> Prop) (b0:β) (h0:P n b0) (hs:∀ (k:Fin n) (b:β),P (k.1 + 1) b -> P k.1 (f b k)):P 0 ((downs n n).foldl f b0):=by
 have key:∀ m,m <= n -> P (n - m) ((downs n m).foldl f b0):=by
  intro m
  induction m with
  | zero=>intro _;simpa [downs] using h0
  | succ m ih =>
   intro hm
   have h1:n - (n - (m + 1)) = m + 1:=by omega
   have h2:n - (n - (m + 1) + 1) = m:=by omega
   have e:=downs_succ n (n - (m + 1)) (by omega)
   rw [h1,h2] at e
   rw [e,List.foldl_append]
   exact hs ⟨n - (m + 1),by omega⟩ _ (by have:=ih (by omega);rwa [show n - (m + 1) + 1 = n - m by omega])
 simpa using key n (Nat.le_refl _)
theorem yieldAt_alt {P:Program} {rd:Option Nat} {n l:Nat} {args:Array Value} {W:World} {A B:World -> Prop}
  (h:YieldAt (Wd rd) n P l args W fun e W'=>(e = .returned (.bool true) /\ A W') \/ (e = .returned (.bool false) /\ B W')) (m:Nat) :
  YieldAt (Wd rd) m P l args W fun e W'=>∃ b,e = .returned (.bool b) /\ (b = true -> A W') /\ (b = false -> B W') :=
 (yieldAt_n h m).mono fun e W' hx=>by
  rcases hx with ⟨rfl,hA⟩ | ⟨rfl,hB⟩
  ·exact ⟨true,rfl,⟨fun _=>hA,fun h=>by cases h⟩⟩
  ·exact ⟨false,rfl,⟨fun h=>absurd h (by simp),fun _=>hB⟩⟩
end Go.Proofs.Ytncgbjhojbnecaa
namespace Go.Proofs.Ytncgbjhojbnecaa
open Go Go.Am Go.Proofs Go.Off
open Nat renaming reduceAdd -> nA,reduceSub -> nS,reduceMul -> nM,reduceBEq -> nB
open Int renaming reduceToNat -> iT,reduceAdd -> iA,reduceSub -> iS,reduceMul -> iM,reduceNeg -> iN
def u32 (z:Int):UInt32:=UInt32.ofNat (z % 4294967296).toNat
theorem u32_nat (n:Nat):(u32 (n:Int)).toNat = n % 4294967296:=by
 unfold u32
 rw [UInt32.toNat_ofNat']
 omega
theorem conv_u32 (z:Int):IntKind.u32.wrap z = ((u32 z).toNat:Int):=by
 unfold u32
 rw [IntKind.wrap_u32,UInt32.toNat_ofNat']
 omega
theorem setU (l:List UInt32) (i:Nat) (x:UInt32):(encB fU l).set i [Cell.c (.val (.int .u32 (x.toNat:Int)))] = encB fU (l.set i x):=encB_set l i x
theorem repU (n:Nat):List.replicate n [Cell.c (.val (.int .u32 0))] = encB fU (List.replicate n 0):=by rw [encB_replicate];rfl
theorem shr32 (z:Int) (h:0 <= z):shrI .u64 z 32 = z / 4294967296:=shrI_u64 (m:=4294967296) h (by decide) (by decide)
theorem shr63 (z:Int) (h:0 <= z):shrI .u64 z 63 = z / 9223372036854775808:=shrI_u64 (m:=9223372036854775808) h (by decide) (by decide)
abbrev c49:CC:=(.seq (.reg [⟨some 2,none,.mv (.const (.slice none 0 0))⟩]) (.seq (.reg [⟨some 3,none,.mv (.tmp 0)⟩,⟨some 4,none,.conv .u32 (.tmp 3)⟩,⟨some 5,none,.mv (.tmp 0)⟩,⟨some 6,none,.bin .shr (.tmp 5) (.const (.int .u64 (32)))⟩,⟨some 7,none,.conv .u32 (.tmp 6)⟩,⟨some 8,none,.mkrow 118 1 [(.tmp 4),(.tmp 7)]⟩,⟨some 9,none,.callf (.func 80) [(.tmp 8)]⟩,⟨some 2,none,.mv (.tmp 9)⟩]) .ret))
theorem cc49:ccode Try.prog [] (Try.f49.body.getD .skip) = some c49:=by kernel_rfl
theorem body49:Try.f49.body = some (Try.f49.body.getD .skip):=rfl
theorem of_C (n:Nat) (hn:n < 18446744073709551616):PureC Try.prog 49 [aU n] (.ret (aN (rowN n))):=by
 refine pureC_of (rs:=[(RV.tmp 2)]) Try.func49 (fun a w=>Try.call49 a w) body49 cc49 (by kernel_rfl) ?_
 rw [Try.ntmps49]
 simp only [frs,nA,nS]
 repeat (first | (with_reducible first | refine Way.imp ?_ | refine blk_o rfl ?_) | ((with_reducible refine WayR.imp (fun K hK=>?_));simp (disch:=first | omega | (simp only [dls];omega)) only [std,reduceIte,reduceCtorEq,iT,nA,nS,nM,iA,iS,iM,iN,fU,conv_u32,shr32];subst hK))
 have e:[[Cell.c (CV.val (Value.int IntKind.u32 ((u32 (n:Int)).toNat:Int)))],[Cell.c (CV.val (Value.int IntKind.u32 ((u32 ((n:Int) / 4294967296)).toNat:Int)))]] = encB fU [u32 (n:Int),u32 ((n:Int) / 4294967296)]:=rfl
 rw [e]
 have hv:val [u32 (n:Int),u32 ((n:Int) / 4294967296)] = n:=by
  have h1:=u32_nat n
  have h2:=u32_nat (n / 4294967296)
  rw [Int.natCast_ediv] at h2
  simp only [val,h1]
  have h2':(u32 ((n:Int) / 4294967296)).toNat = n / 4294967296 % 4294967296:=h2
  rw [h2']
  omega
 have ht:=trim_C (some [u32 (n:Int),u32 ((n:Int) / 4294967296)]) (by simp [osl])
 rw [Option.map_some,hv] at ht
 (apply call_ret (ht) rfl;(case hcl=>(simp only [evs,St.ev,constAV,evl];(repeat (first | exact closeAVs_nil | (apply closeAVs_cons;(first | (refine close_own3 rfl (by decide)) | (refine close_ownO rfl (by decide) ?_;assumption) | rfl))));done));(case hf=>rfl);(case hu=>(simp only [evs,St.ev,constAV,evl];(repeat (first | exact used_nil | (apply used_cons;(first | (apply used_own3;rfl) | rfl))));done));(case hh=>((simp only [fzl,nB,nA,Bool.false_eq_true,if_true,if_false,reduceIte]) <;> rfl)))
 repeat (first | (with_reducible first | refine Way.imp ?_ | refine blk_o rfl ?_) | ((with_reducible refine WayR.imp (fun K hK=>?_));simp (disch:=first | omega | (simp only [dls];omega)) only [std,reduceIte,reduceCtorEq,iT,nA,nS,nM,iA,iS,iM,iN,fU];subst hK))
 exact ⟨_,rfl,Ends.ret_c⟩
abbrev c84_k1:CC:=(.seq (.reg [⟨some 37,none,.mv (.tmp 5)⟩,⟨some 38,none,.callf (.func 80) [(.tmp 37)]⟩,⟨some 4,none,.mv (.tmp 38)⟩]) .ret)
abbrev c84_b1:CC:=(.seq (.reg [⟨some 18,none,.bin .lss (.tmp 17) (.tmp 16)⟩]) (.seq (.cond (.tmp 18) .skip (.exit 0)) (.seq (.block 1 (.seq (.reg [⟨some 19,none,.mv (.tmp 17)⟩,⟨some 7,none,.mv (.tmp 19)⟩]) (.seq (.reg [⟨some 20,none,.mv (.tmp 6)⟩,⟨some 21,none,.mv (.tmp 0)⟩,⟨some 22,none,.mv (.tmp 7)⟩,⟨some 23,none,.callf (.func 98) [(.tmp 21),(.tmp 22)]⟩,⟨some 24,none,.mv (.tmp 1)⟩,⟨some 25,none,.mv (.tmp 7)⟩,⟨some 26,none,.callf (.func 98) [(.tmp 24),(.tmp 25)]⟩,⟨some 27,none,.bin .add (.tmp 23) (.tmp 26)⟩,⟨some 28,none,.bin .add (.tmp 20) (.tmp 27)⟩,⟨some 6,none,.mv (.tmp 28)⟩]) (.seq (.reg [⟨some 29,none,.mv (.tmp 5)⟩,⟨some 30,none,.mv (.tmp 7)⟩,⟨some 31,none,.mv (.tmp 6)⟩,⟨some 32,none,.conv .u32 (.tmp 31)⟩,⟨some 33,none,.iaddr 1 none (.tmp 29) (.tmp 30)⟩,⟨none,none,.store 1 (.tmp 33) (.tmp 32)⟩]) (.reg [⟨some 34,none,.mv (.tmp 6)⟩,⟨some 35,none,.bin .shr (.tmp 34) (.const (.int .u64 (32)))⟩,⟨some 6,none,.mv (.tmp 35)⟩]))))) (.reg [⟨some 36,none,.bin .add (.tmp 17) (.const (.int .i64 (1)))⟩,⟨some 17,none,.mv (.tmp 36)⟩]))))
abbrev c84:CC:=(.seq (.reg [⟨some 4,none,.mv (.const (.slice none 0 0))⟩]) (.seq (.reg [⟨some 8,none,.mv (.tmp 0)⟩,⟨some 9,none,.len false (.tmp 8)⟩,⟨some 10,none,.mv (.tmp 1)⟩,⟨some 11,none,.len false (.tmp 10)⟩,⟨some 12,none,.mm true (.tmp 9) (.tmp 11)⟩,⟨some 13,none,.bin .add (.tmp 12) (.const (.int .i64 (1)))⟩,⟨some 14,none,.make 118 1 4 [(.int .u32 (0))] (.tmp 13) (.tmp 13)⟩,⟨some 5,none,.mv (.tmp 14)⟩]) (.seq (.reg [⟨some 6,none,.mv (.const (.int .u64 (0)))⟩]) (.seq (.seq (.reg [⟨some 15,none,.mv (.tmp 5)⟩,⟨some 16,none,.len false (.tmp 15)⟩,⟨some 17,none,.mv (.const (.int .i64 (0)))⟩]) (.block 0 (.loop c84_b1))) c84_k1))))
theorem cc84:ccode Try.prog [] (Try.f84.body.getD .skip) = some c84:=by kernel_rfl
theorem body84:Try.f84.body = some (Try.f84.body.getD .skip):=rfl
theorem add_C (a b:Row) (ha:(osl a).length <= 1000000000) (hb:(osl b).length <= 1000000000):PureC Try.prog 84 [aN a,aN b] (.ret (aN (rowN (a.val + b.val)))):=by
 refine pureC_of (rs:=[(RV.tmp 4)]) Try.func84 (fun a w=>Try.call84 a w) body84 cc84 (by kernel_rfl) ?_
 rw [Try.ntmps84]
 simp only [frs,nA,nS]
 have hm:max ((osl a).length:Int) ((osl b).length:Int) + 1 = ((max (osl a).length (osl b).length + 1:Nat):Int):=by omega
 have hle:max (osl a).length (osl b).length + 1 <= 1000000001:=by omega
 have hga:(osl a).length < max (osl a).length (osl b).length + 1:=by omega
 have hgb:(osl b).length < max (osl a).length (osl b).length + 1:=by omega
 generalize max (osl a).length (osl b).length + 1 = m at *
 repeat (first | (with_reducible first | refine Way.imp ?_ | refine blk_o rfl ?_) | ((with_reducible refine WayR.imp (fun K hK=>?_));simp (disch:=first | omega | (simp only [dls];omega)) only [std,reduceIte,reduceCtorEq,iT,nA,nS,nM,iA,iS,iM,iN,fU,hm,repU,List.length_replicate];subst hK))
 refine awp_loop (fun (zz:Nat × (List UInt32) × Nat)=>⟨(aN a :: aN b :: .junk :: .junk :: .one (.c (.val (.slice none 0 0))) :: .one (.own 0 0) :: aU zz.2.2 :: .junk :: .junk :: .junk :: .junk :: .junk :: .junk :: .junk :: .junk :: .junk :: aI m :: aI zz.1 :: .junk :: .junk :: .junk :: .junk :: .junk :: .junk :: .junk :: .junk :: .junk :: .junk :: .junk :: .junk :: .junk :: .junk :: .junk :: .junk :: .junk :: .junk :: .junk :: .junk :: .junk :: []),[⟨0,118,1,encB fU zz.2.1,true,true⟩]⟩) (fun (zz:Nat × (List UInt32) × Nat)=>zz.1 <= m /\ zz.2.1.length = m /\ zz.2.2 <= 1 /\ low zz.2.1 zz.1 + W ^ zz.1 * zz.2.2 = low (osl a) zz.1 + low (osl b) zz.1) (fun (zz:Nat × (List UInt32) × Nat)=>m - zz.1) (0,List.replicate m 0,0) ?hI1 (Fgt.head (Nat.zero_le 1) [true,true,false,false,true,true,true,false,false,false,false,false,false,false,false,false,true,true] ?hT1 ?hH1) ?hB1
 case hT1=>first | (simp (disch:=omega) only [hds,liveT,cleanAV,cleanCell,clean1,cleanBlk,reduceIte,iS,iA,iN];done) | rfl
 case hH1=>first | (simp (disch:=omega) only [hds,liveT,cleanAV,cleanCell,clean1,cleanBlk,reduceIte,iS,iA,iN];done) | rfl
 ·dsimp only;exact ⟨by omega,List.length_replicate,by omega,by simp [low_zero]⟩
 rintro ⟨k,out,c⟩ ⟨hk,hlen,hc,hinv⟩
 dsimp only at hk hlen hc hinv
 by_cases hkm:k = m
 ·have ht:=trim_C (some out) (by show out.length <= _;omega)
  rw [Option.map_some] at ht
  repeat (first | (with_reducible first | refine Way.imp ?_ | refine blk_o rfl ?_) | ((with_reducible refine WayR.imp (fun K hK=>?_));simp (disch:=first | omega | (simp only [dls];omega)) only [std,reduceIte,reduceCtorEq,iT,nA,nS,nM,iA,iS,iM,iN,fU];subst hK) | (apply call_ret (ht) rfl;(case hcl=>(simp only [evs,St.ev,constAV,evl];(repeat (first | exact closeAVs_nil | (apply closeAVs_cons;(first | (refine close_own3 rfl (by decide)) | (refine close_ownO rfl (by decide) ?_;assumption) | rfl))));done));(case hf=>rfl);(case hu=>(simp only [evs,St.ev,constAV,evl];(repeat (first | exact used_nil | (apply used_cons;(first | (apply used_own3;rfl) | rfl))));done));(case hh=>((simp only [fzl,nB,nA,Bool.false_eq_true,if_true,if_false,reduceIte]) <;> rfl))))
  refine ⟨_,rfl,?_⟩
  subst hkm
  have h1:=low_lt (osl a) (k - 1)
  have h2:=low_lt (osl b) (k - 1)
  rw [low_all (osl a) (by omega)] at h1 hinv
  rw [low_all (osl b) (by omega)] at h2 hinv
  rw [low_all out (by omega)] at hinv
  have:=add_end (by omega) h1 h2 hinv
  rw [this]
  exact Ends.ret_c
 ·have h1:=dgt_lt (osl a) k
  have h2:=dgt_lt (osl b) k
  repeat (first | (with_reducible first | refine Way.imp ?_ | refine blk_o rfl ?_) | ((with_reducible refine WayR.imp (fun K hK=>?_));simp (disch:=first | omega | (simp only [dls];omega)) only [std,reduceIte,reduceCtorEq,iT,nA,nS,nM,iA,iS,iM,iN,fU,conv_u32,shr32,setU];subst hK) | (apply call_flat (at_C a k (by omega)) rfl;(case hcl=>(simp only [evs,St.ev,constAV,evl];(repeat (first | exact closeAVs_nil | (apply closeAVs_cons;(first | (refine close_own3 rfl (by decide)) | (refine close_ownO rfl (by decide) ?_;assumption) | rfl))));done));(case hf=>rfl)) | (apply call_flat (at_C b k (by omega)) rfl;(case hcl=>(simp only [evs,St.ev,constAV,evl];(repeat (first | exact closeAVs_nil | (apply closeAVs_cons;(first | (refine close_own3 rfl (by decide)) | (refine close_ownO rfl (by decide) ?_;assumption) | rfl))));done));(case hf=>rfl)))
  refine ⟨(k + 1,out.set k (u32 ((c:Int) + (dgt (osl a) k + dgt (osl b) k))),(c + (dgt (osl a) k + dgt (osl b) k)) / 4294967296),?hI2,?hM2,Fgt.head (Nat.zero_le 1) [true,true,false,false,true,true,true,false,false,false,false,false,false,false,false,false,true,true] ?hT2 ?hH2⟩
  case hT2=>first | (simp (disch:=omega) only [hds,liveT,cleanAV,cleanCell,clean1,cleanBlk,reduceIte,iS,iA,iN];done) | rfl
  case hH2=>first | (simp (disch:=omega) only [hds,liveT,cleanAV,cleanCell,clean1,cleanBlk,reduceIte,iS,iA,iN];done) | rfl
  ·dsimp only
   refine ⟨by omega,by rw [List.length_set];exact hlen,by omega,?_⟩
   have e:=u32_nat (c + (dgt (osl a) k + dgt (osl b) k))
   simp only [Int.natCast_add] at e
   rw [low_set _ _ (by omega),e,low_succ,low_succ]
   exact add_step _ _ hinv
  ·dsimp only;omega
end Go.Proofs.Ytncgbjhojbnecaa
namespace Go.Proofs.Ytncgbjhojbnecaa
open Go Go.Am Go.Proofs Go.Off
open Nat renaming reduceAdd -> nA,reduceSub -> nS,reduceMul -> nM,reduceBEq -> nB
open Int renaming reduceToNat -> iT,reduceAdd -> iA,reduceSub -> iS,reduceMul -> iM,reduceNeg -> iN
def trimR (a:Row):Row:=a.map fun l=>digits (val l)
theorem trimR_ds (a:Row):osl (trimR a) = digits a.val:=by
 cases a with
 | none=>exact digits_zero.symm
 | some l=>rfl
theorem digits_len_row (a:Row):(digits a.val).length <= (osl a).length:=digits_len_le (val_lt (osl a))
abbrev c81_k1:CC:=(.seq (.reg [⟨none,none,.store 1 (.tmp 4) (.const (.int .i64 (0)))⟩]) .ret)
abbrev c81_b1:CC:=(.block 1 (.block 2 (.seq (.reg [⟨some 28,none,.mv (.tmp 6)⟩,⟨some 29,none,.load 1 false (.tmp 3)⟩,⟨some 30,none,.mv (.tmp 5)⟩,⟨some 31,none,.iaddr 1 none (.tmp 29) (.tmp 30)⟩,⟨some 32,none,.load 1 false (.tmp 31)⟩,⟨some 33,none,.bin .lss (.tmp 28) (.tmp 32)⟩,⟨some 27,none,.mv (.tmp 33)⟩]) (.cond (.tmp 27) (.seq (.reg [⟨none,none,.store 1 (.tmp 4) (.const (.int .i64 (-1)))⟩]) .ret) (.seq (.reg [⟨some 35,none,.mv (.tmp 6)⟩,⟨some 36,none,.load 1 false (.tmp 3)⟩,⟨some 37,none,.mv (.tmp 5)⟩,⟨some 38,none,.iaddr 1 none (.tmp 36) (.tmp 37)⟩,⟨some 39,none,.load 1 false (.tmp 38)⟩,⟨some 40,none,.bin .gtr (.tmp 35) (.tmp 39)⟩,⟨some 34,none,.mv (.tmp 40)⟩]) (.cond (.tmp 34) (.seq (.reg [⟨none,none,.store 1 (.tmp 4) (.const (.int .i64 (1)))⟩]) .ret) .skip))))))
abbrev c81:CC:=(.seq (.reg [⟨some 3,none,.box 37 (.tmp 1)⟩,⟨some 4,none,.new 3 [(.int .i64 (0))]⟩]) (.seq (.reg [⟨some 7,none,.mv (.tmp 0)⟩,⟨some 8,none,.callf (.func 80) [(.tmp 7)]⟩,⟨some 9,none,.load 1 false (.tmp 3)⟩,⟨some 10,none,.callf (.func 80) [(.tmp 9)]⟩,⟨some 0,none,.mv (.tmp 8)⟩,⟨none,none,.store 1 (.tmp 3) (.tmp 10)⟩]) (.seq (.seq (.reg [⟨some 11,none,.mv (.tmp 0)⟩,⟨some 12,none,.len false (.tmp 11)⟩,⟨some 13,none,.load 1 false (.tmp 3)⟩,⟨some 14,none,.len false (.tmp 13)⟩,⟨some 15,none,.bin .neq (.tmp 12) (.tmp 14)⟩]) (.cond (.tmp 15) (.seq (.reg [⟨some 16,none,.mv (.tmp 0)⟩,⟨some 17,none,.len false (.tmp 16)⟩,⟨some 18,none,.load 1 false (.tmp 3)⟩,⟨some 19,none,.len false (.tmp 18)⟩,⟨some 20,none,.bin .sub (.tmp 17) (.tmp 19)⟩,⟨some 21,none,.mm true (.tmp 20) (.const (.int .i64 (-1)))⟩,⟨some 22,none,.mm false (.tmp 21) (.const (.int .i64 (1)))⟩,⟨none,none,.store 1 (.tmp 4) (.tmp 22)⟩]) .ret) .skip)) (.seq (.seq (.reg [⟨some 23,none,.mv (.tmp 0)⟩,⟨some 24,none,.callf (.func 92) [(.tmp 23)]⟩]) (.block 0 (.rf (.tmp 24) [25,26] [(5,25),(6,26)] c81_b1))) c81_k1))))
theorem cc81:ccode Try.prog [] (Try.f81.body.getD .skip) = some c81:=by kernel_rfl
theorem body81:Try.f81.body = some (Try.f81.body.getD .skip):=rfl
theorem compare_C (a b:Row) (ha:(osl a).length <= 1000000000) (hb:(osl b).length <= 1000000000):PureC Try.prog 81 [aN a,aN b] (.ret (aI (cmpNat a.val b.val))):=by
 refine pureC_of (rs:=[(RV.cell 4 1 false)]) Try.func81 (fun a w=>Try.call81 a w) body81 cc81 (by kernel_rfl) ?_
 rw [Try.ntmps81]
 simp only [frs,nA,nS]
 have hta:=trim_C a (by omega)
 have htb:=trim_C b (by omega)
 change PureC _ _ _ (.ret (aN (trimR a))) at hta
 change PureC _ _ _ (.ret (aN (trimR b))) at htb
 have hsa:=trimR_ds a
 have hsb:=trimR_ds b
 have hla:=digits_len_row a
 have hlb:=digits_len_row b
 rw [<- hsa] at hla
 rw [<- hsb] at hlb
 generalize trimR a = s at *
 generalize trimR b = t at *
 by_cases hl:(osl s).length = (osl t).length
 ·repeat (first | (with_reducible first | refine Way.imp ?_ | refine blk_o rfl ?_) | ((with_reducible refine WayR.imp (fun K hK=>?_));simp (disch:=first | omega | (simp only [dls];omega)) only [std,reduceIte,reduceCtorEq,iT,nA,nS,nM,iA,iS,iM,iN,fU];subst hK) | refine zcA (hta) rfl rfl rfl ?_ | refine zcA (htb) rfl rfl rfl ?_ | refine zcA (backward_C _) rfl rfl rfl ?_)
  refine awp_rf rfl (by simp [closedCell]) (back_iter s (by omega)) (fun pre h=>h = [⟨0,37,1,[[.c (nr t)]],true,true⟩,⟨0,3,1,[[.c (.val (.int .i64 0))]],true,true⟩] /\ ∀ k ∈ pre,dgt (osl s) k.1 = dgt (osl t) k.1) ⟨rfl,fun k hk=>by cases hk⟩
   (fun pre e h=>e = .ret /\ ∃ pre0 k,pre = pre0 ++ [k] /\ (∀ j ∈ pre0,dgt (osl s) j.1 = dgt (osl t) j.1) /\ dgt (osl s) k.1 ≠ dgt (osl t) k.1 /\ h = [⟨0,37,1,[[.c (nr t)]],true,true⟩,⟨0,3,1,[[.c (.val (.int .i64 (if dgt (osl s) k.1 < dgt (osl t) k.1 then -1 else 1)))]],true,true⟩]) ?_ ?_ ?_
  ·rintro pre k h hlen ⟨rfl,hinv⟩
   have hk:=k.2
   have hk2:k.1 < (osl t).length:=by omega
   rw [show backAV (osl s) k = [aI (k.1:Int),aU32 (dgt (osl s) k.1:Nat)] from by rw [dgt_eq _ _ hk]]
   have hd:=dgt_eq (osl t) k.1 hk2
   simp only [mvT,setps,rnd,nA]
   by_cases hlt:dgt (osl s) k.1 < dgt (osl t) k.1
   ·repeat (first | (with_reducible first | refine Way.imp ?_ | refine blk_o rfl ?_) | ((with_reducible refine WayR.imp (fun K hK=>?_));simp (disch:=first | omega | (simp only [dls];omega)) only [std,reduceIte,reduceCtorEq,iT,nA,nS,nM,iA,iS,iM,iN,fU,<- hd];subst hK))
    exact ⟨rfl,pre,k,rfl,hinv,by omega,by rw [if_pos hlt]⟩
   ·by_cases hgt:dgt (osl t) k.1 < dgt (osl s) k.1
    ·repeat (first | (with_reducible first | refine Way.imp ?_ | refine blk_o rfl ?_) | ((with_reducible refine WayR.imp (fun K hK=>?_));simp (disch:=first | omega | (simp only [dls];omega)) only [std,reduceIte,reduceCtorEq,iT,nA,nS,nM,iA,iS,iM,iN,fU,<- hd];subst hK))
     exact ⟨rfl,pre,k,rfl,hinv,by omega,by rw [if_neg hlt]⟩
    ·repeat (first | (with_reducible first | refine Way.imp ?_ | refine blk_o rfl ?_) | ((with_reducible refine WayR.imp (fun K hK=>?_));simp (disch:=first | omega | (simp only [dls];omega)) only [std,reduceIte,reduceCtorEq,iT,nA,nS,nM,iA,iS,iM,iN,fU,<- hd];subst hK))
     refine ⟨_,⟨rfl,?hI1⟩,_,Fgt.head (Nat.le_refl _) [] rfl ?hH1⟩
     case hH1=>first | (simp (disch:=omega) only [hds,liveT,cleanAV,cleanCell,clean1,cleanBlk,reduceIte,iS,iA,iN];done) | rfl
     intro j hj
     rcases List.mem_append.1 hj with hj | hj
     ·exact hinv j hj
     ·rw [List.mem_singleton.1 hj];omega
  ·rintro xs h rfl ⟨rfl,hinv⟩
   repeat (first | (with_reducible first | refine Way.imp ?_ | refine blk_o rfl ?_) | ((with_reducible refine WayR.imp (fun K hK=>?_));simp (disch:=first | omega | (simp only [dls];omega)) only [std,reduceIte,reduceCtorEq,iT,nA,nS,nM,iA,iS,iM,iN,fU];subst hK))
   refine ⟨_,rfl,?_⟩
   have he:osl s = osl t:=cmp_all hl fun j=>by
    by_cases hj:j < (osl s).length
    ·exact hinv ⟨j,hj⟩ ((mem_downs (Nat.le_refl _) _).2 (by omega))
    ·simp only [dgt,hj,show ¬ j < (osl t).length from by omega,dif_neg,not_false_eq_true]
   have hv:a.val = b.val:=digits_inj (by rw [<- hsa,<- hsb,he])
   rw [show cmpNat a.val b.val = 0 from by unfold cmpNat;simp [hv]]
   exact Ends.ret_c
  ·rintro e pre h ⟨m,hm,rfl⟩ ⟨rfl,pre0,k,hpre,hall,hne,rfl⟩
   repeat (first | (with_reducible first | refine Way.imp ?_ | refine blk_o rfl ?_) | ((with_reducible refine WayR.imp (fun K hK=>?_));simp (disch:=first | omega | (simp only [dls];omega)) only [std,reduceIte,reduceCtorEq,iT,nA,nS,nM,iA,iS,iM,iN,fU];subst hK))
   refine ⟨_,rfl,?_⟩
   have hm0:m ≠ 0:=fun e=>by subst e;simp [downs] at hpre
   have hk:=k.2
   have e1:=downs_succ (osl s).length ((osl s).length - m) (by omega)
   rw [show (osl s).length - ((osl s).length - m) = m by omega,show (osl s).length - ((osl s).length - m + 1) = m - 1 by omega] at e1
   rw [e1] at hpre
   obtain ⟨hp1,hp2⟩:=List.append_inj' hpre rfl
   simp only [List.cons.injEq,and_true] at hp2
   have hkm:k.1 = (osl s).length - m:=by rw [<- hp2]
   have hab:∀ j,k.1 < j -> dgt (osl s) j = dgt (osl t) j:=fun j hj=>by
    by_cases hjl:j < (osl s).length
    ·refine hall ⟨j,hjl⟩ ?_
     rw [<- hp1,mem_downs (by omega)]
     show _ <= j
     omega
    ·simp only [dgt,hjl,show ¬ j < (osl t).length from by omega,dif_neg,not_false_eq_true]
   have hva:val (osl s) = a.val:=by rw [hsa,val_digits]
   have hvb:val (osl t) = b.val:=by rw [hsb,val_digits]
   by_cases hlt:dgt (osl s) k.1 < dgt (osl t) k.1
   ·have:=cmp_at hl k.1 hk hab hlt
    rw [hva,hvb] at this
    rw [if_pos hlt,show cmpNat a.val b.val = -1 from by unfold cmpNat;rw [if_pos this]]
    exact Ends.ret_c
   ·have:=cmp_at hl.symm k.1 (by omega) (fun j hj=>(hab j hj).symm) (by omega)
    rw [hva,hvb] at this
    rw [if_neg hlt,show cmpNat a.val b.val = 1 from by unfold cmpNat;rw [if_neg (by omega),if_pos this]]
    exact Ends.ret_c
 ·repeat (first | (with_reducible first | refine Way.imp ?_ | refine blk_o rfl ?_) | ((with_reducible refine WayR.imp (fun K hK=>?_));simp (disch:=first | omega | (simp only [dls];omega)) only [std,reduceIte,reduceCtorEq,iT,nA,nS,nM,iA,iS,iM,iN,fU,ite_min];subst hK) | refine zcA (hta) rfl rfl rfl ?_ | refine zcA (htb) rfl rfl rfl ?_)
  refine ⟨_,rfl,?_⟩
  have e:min (max (((osl s).length:Int) - ((osl t).length:Int)) (-1)) 1 = cmpNat a.val b.val:=by
   by_cases h:(osl s).length < (osl t).length
   ·have:=cmp_len (x:=a.val) (y:=b.val) (by rw [<- hsa,<- hsb];exact h)
    unfold cmpNat
    rw [if_pos this]
    omega
   ·have:=cmp_len (x:=b.val) (y:=a.val) (by rw [<- hsa,<- hsb];omega)
    unfold cmpNat
    rw [if_neg (by omega),if_pos this]
    omega
  rw [<- e]
  exact Ends.ret_c
theorem subw {x y c:Nat} (hx:x < 4294967296) (hy:y < 4294967296) (hc:c <= 1) (h:x < y + c):IntKind.u64.wrap (IntKind.u64.wrap ((x:Int) - y) - c) = 18446744073709551616 + (x:Int) - y - c:=by
 simp only [IntKind.wrap,IntKind.bits,IntKind.signed]
 simp
 omega
theorem sub_row (c:Bool) (n:Nat):aN (rowN n) = .one (.c (encSl 1 fU (some (digits n)))):=rfl
abbrev c85_k1:CC:=(.seq (.reg [⟨some 39,none,.mv (.tmp 6)⟩,⟨some 40,none,.callf (.func 80) [(.tmp 39)]⟩,⟨some 4,none,.mv (.tmp 40)⟩,⟨some 5,none,.mv (.const (.bool true))⟩]) .ret)
abbrev c85_b1:CC:=(.seq (.reg [⟨some 20,none,.bin .lss (.tmp 19) (.tmp 18)⟩]) (.seq (.cond (.tmp 20) .skip (.exit 0)) (.seq (.block 1 (.seq (.reg [⟨some 21,none,.mv (.tmp 19)⟩,⟨some 8,none,.mv (.tmp 21)⟩]) (.seq (.reg [⟨some 22,none,.mv (.tmp 0)⟩,⟨some 23,none,.mv (.tmp 8)⟩,⟨some 24,none,.callf (.func 98) [(.tmp 22),(.tmp 23)]⟩,⟨some 25,none,.mv (.tmp 1)⟩,⟨some 26,none,.mv (.tmp 8)⟩,⟨some 27,none,.callf (.func 98) [(.tmp 25),(.tmp 26)]⟩,⟨some 28,none,.bin .sub (.tmp 24) (.tmp 27)⟩,⟨some 29,none,.mv (.tmp 7)⟩,⟨some 30,none,.bin .sub (.tmp 28) (.tmp 29)⟩,⟨some 9,none,.mv (.tmp 30)⟩]) (.seq (.reg [⟨some 31,none,.mv (.tmp 6)⟩,⟨some 32,none,.mv (.tmp 8)⟩,⟨some 33,none,.mv (.tmp 9)⟩,⟨some 34,none,.conv .u32 (.tmp 33)⟩,⟨some 35,none,.iaddr 1 none (.tmp 31) (.tmp 32)⟩,⟨none,none,.store 1 (.tmp 35) (.tmp 34)⟩]) (.reg [⟨some 36,none,.mv (.tmp 9)⟩,⟨some 37,none,.bin .shr (.tmp 36) (.const (.int .u64 (63)))⟩,⟨some 7,none,.mv (.tmp 37)⟩]))))) (.reg [⟨some 38,none,.bin .add (.tmp 19) (.const (.int .i64 (1)))⟩,⟨some 19,none,.mv (.tmp 38)⟩]))))
abbrev c85:CC:=(.seq (.reg [⟨some 4,none,.mv (.const (.slice none 0 0))⟩,⟨some 5,none,.mv (.const (.bool false))⟩]) (.seq (.seq (.reg [⟨some 10,none,.mv (.tmp 0)⟩,⟨some 11,none,.mv (.tmp 1)⟩,⟨some 12,none,.callf (.func 81) [(.tmp 10),(.tmp 11)]⟩,⟨some 13,none,.bin .lss (.tmp 12) (.const (.int .i64 (0)))⟩]) (.cond (.tmp 13) (.seq (.reg [⟨some 4,none,.mv (.const (.slice none 0 0))⟩,⟨some 5,none,.mv (.const (.bool false))⟩]) .ret) .skip)) (.seq (.reg [⟨some 14,none,.mv (.tmp 0)⟩,⟨some 15,none,.len false (.tmp 14)⟩,⟨some 16,none,.make 118 1 4 [(.int .u32 (0))] (.tmp 15) (.tmp 15)⟩,⟨some 6,none,.mv (.tmp 16)⟩]) (.seq (.reg [⟨some 7,none,.mv (.const (.int .u64 (0)))⟩]) (.seq (.seq (.reg [⟨some 17,none,.mv (.tmp 6)⟩,⟨some 18,none,.len false (.tmp 17)⟩,⟨some 19,none,.mv (.const (.int .i64 (0)))⟩]) (.block 0 (.loop c85_b1))) c85_k1)))))
theorem cc85:ccode Try.prog [] (Try.f85.body.getD .skip) = some c85:=by kernel_rfl
theorem body85:Try.f85.body = some (Try.f85.body.getD .skip):=rfl
theorem sub_lt (a b:Row) (ha:(osl a).length <= 1000000000) (hb:(osl b).length <= 1000000000) (hlt:a.val < b.val):PureC Try.prog 85 [aN a,aN b] (.ret (.tup [aN none,aB false])):=by
 refine pureC_of (rs:=[(RV.tmp 4),(RV.tmp 5)]) Try.func85 (fun a w=>Try.call85 a w) body85 cc85 (by kernel_rfl) ?_
 rw [Try.ntmps85]
 simp only [frs,nA,nS]
 have hc:=compare_C a b ha hb
 rw [show cmpNat a.val b.val = -1 from by unfold cmpNat;rw [if_pos hlt]] at hc
 repeat (first | (with_reducible first | refine Way.imp ?_ | refine blk_o rfl ?_) | ((with_reducible refine WayR.imp (fun K hK=>?_));simp (disch:=first | omega | (simp only [dls];omega)) only [std,reduceIte,reduceCtorEq,iT,nA,nS,nM,iA,iS,iM,iN,fU];subst hK) | (apply call_flat (hc) rfl;(case hcl=>(simp only [evs,St.ev,constAV,evl];(repeat (first | exact closeAVs_nil | (apply closeAVs_cons;(first | (refine close_own3 rfl (by decide)) | (refine close_ownO rfl (by decide) ?_;assumption) | rfl))));done));(case hf=>rfl)))
 exact ⟨_,rfl,rfl⟩
theorem sub_ge (a b:Row) (ha:(osl a).length <= 1000000000) (hb:(osl b).length <= 1000000000) (hge:b.val <= a.val):PureC Try.prog 85 [aN a,aN b] (.ret (.tup [aN (rowN (a.val - b.val)),aB true])):=by
 refine pureC_of (rs:=[(RV.tmp 4),(RV.tmp 5)]) Try.func85 (fun a w=>Try.call85 a w) body85 cc85 (by kernel_rfl) ?_
 rw [Try.ntmps85]
 simp only [frs,nA,nS]
 have hc:=compare_C a b ha hb
 have h0:¬ cmpNat a.val b.val < 0:=by unfold cmpNat;rw [if_neg (by omega)];split <;> omega
 generalize cmpNat a.val b.val = z at hc h0
 have hva:=val_lt (osl a)
 generalize hm:(osl a).length = m at *
 repeat (first | (with_reducible first | refine Way.imp ?_ | refine blk_o rfl ?_) | ((with_reducible refine WayR.imp (fun K hK=>?_));simp (disch:=first | omega | (simp only [dls];omega)) only [std,reduceIte,reduceCtorEq,iT,nA,nS,nM,iA,iS,iM,iN,fU,repU,hm,List.length_replicate];subst hK) | (apply call_flat (hc) rfl;(case hcl=>(simp only [evs,St.ev,constAV,evl];(repeat (first | exact closeAVs_nil | (apply closeAVs_cons;(first | (refine close_own3 rfl (by decide)) | (refine close_ownO rfl (by decide) ?_;assumption) | rfl))));done));(case hf=>rfl)))
 refine awp_loop (fun (zz:Nat × (List UInt32) × Nat)=>⟨(aN a :: aN b :: .junk :: .junk :: .one (.c (.val (.slice none 0 0))) :: aB false :: .one (.own 0 0) :: aU zz.2.2 :: .junk :: .junk :: .junk :: .junk :: .junk :: .junk :: .junk :: .junk :: .junk :: .junk :: aI m :: aI zz.1 :: .junk :: .junk :: .junk :: .junk :: .junk :: .junk :: .junk :: .junk :: .junk :: .junk :: .junk :: .junk :: .junk :: .junk :: .junk :: .junk :: .junk :: .junk :: .junk :: .junk :: .junk :: []),[⟨0,118,1,encB fU zz.2.1,true,true⟩]⟩) (fun (zz:Nat × (List UInt32) × Nat)=>zz.1 <= m /\ zz.2.1.length = m /\ zz.2.2 <= 1 /\ low (osl a) zz.1 + W ^ zz.1 * zz.2.2 = low zz.2.1 zz.1 + low (osl b) zz.1) (fun (zz:Nat × (List UInt32) × Nat)=>m - zz.1) (0,List.replicate m 0,0) ?hI2 (Fgt.head (Nat.zero_le 1) [true,true,false,false,true,true,true,true,false,false,false,false,false,false,false,false,false,false,true,true] ?hT2 ?hH2) ?hB2
 case hT2=>first | (simp (disch:=omega) only [hds,liveT,cleanAV,cleanCell,clean1,cleanBlk,reduceIte,iS,iA,iN];done) | rfl
 case hH2=>first | (simp (disch:=omega) only [hds,liveT,cleanAV,cleanCell,clean1,cleanBlk,reduceIte,iS,iA,iN];done) | rfl
 ·dsimp only;exact ⟨by omega,List.length_replicate,by omega,by simp [low_zero]⟩
 rintro ⟨k,out,c⟩ ⟨hk,hlen,hc1,hinv⟩
 dsimp only at hk hlen hc1 hinv
 by_cases hkm:k = m
 ·have ht:=trim_C (some out) (by show out.length <= _;omega)
  rw [Option.map_some] at ht
  repeat (first | (with_reducible first | refine Way.imp ?_ | refine blk_o rfl ?_) | ((with_reducible refine WayR.imp (fun K hK=>?_));simp (disch:=first | omega | (simp only [dls];omega)) only [std,reduceIte,reduceCtorEq,iT,nA,nS,nM,iA,iS,iM,iN,fU];subst hK) | (apply call_ret (ht) rfl;(case hcl=>(simp only [evs,St.ev,constAV,evl];(repeat (first | exact closeAVs_nil | (apply closeAVs_cons;(first | (refine close_own3 rfl (by decide)) | (refine close_ownO rfl (by decide) ?_;assumption) | rfl))));done));(case hf=>rfl);(case hu=>(simp only [evs,St.ev,constAV,evl];(repeat (first | exact used_nil | (apply used_cons;(first | (apply used_own3;rfl) | rfl))));done));(case hh=>((simp only [fzl,nB,nA,Bool.false_eq_true,if_true,if_false,reduceIte]) <;> rfl))))
  refine ⟨_,rfl,?_⟩
  subst hkm
  have hO:=low_lt out k
  rw [low_all out (by omega)] at hinv hO
  rw [low_all (osl a) (by omega),low_of_lt (l:=osl b) (m:=k) (Nat.lt_of_le_of_lt hge hva)] at hinv
  have:=sub_end hO hge hc1 hinv
  rw [this]
  exact rfl
 ·have h1:=dgt_lt (osl a) k
  have h2:=dgt_lt (osl b) k
  have hst:=sub_step (k:=k) (dgt (osl a) k) (dgt (osl b) k) h1 h2 hc1 hinv
  by_cases hb1:dgt (osl a) k < dgt (osl b) k + c
  ·have hw:=subw h1 h2 hc1 hb1
   repeat (first | (with_reducible first | refine Way.imp ?_ | refine blk_o rfl ?_) | ((with_reducible refine WayR.imp (fun K hK=>?_));simp (disch:=first | omega | (simp only [dls];omega)) only [std,reduceIte,reduceCtorEq,iT,nA,nS,nM,iA,iS,iM,iN,fU,conv_u32,shr63,setU,hw];subst hK) | (apply call_flat (at_C a k (by omega)) rfl;(case hcl=>(simp only [evs,St.ev,constAV,evl];(repeat (first | exact closeAVs_nil | (apply closeAVs_cons;(first | (refine close_own3 rfl (by decide)) | (refine close_ownO rfl (by decide) ?_;assumption) | rfl))));done));(case hf=>rfl)) | (apply call_flat (at_C b k (by omega)) rfl;(case hcl=>(simp only [evs,St.ev,constAV,evl];(repeat (first | exact closeAVs_nil | (apply closeAVs_cons;(first | (refine close_own3 rfl (by decide)) | (refine close_ownO rfl (by decide) ?_;assumption) | rfl))));done));(case hf=>rfl)))
   have hz:(18446744073709551616 + (dgt (osl a) k:Int) - dgt (osl b) k - c) / 9223372036854775808 = ((1:Nat):Int):=by omega
   refine ⟨(k + 1,out.set k (u32 (18446744073709551616 + (dgt (osl a) k:Int) - dgt (osl b) k - c)),1),?hI3,?hM3,Fgt.head (Nat.zero_le 1) [true,true,false,false,true,true,true,true,false,false,false,false,false,false,false,false,false,false,true,true] ?hT3 ?hH3⟩
   case hT3=>first | (simp (disch:=omega) only [hds,liveT,cleanAV,cleanCell,clean1,cleanBlk,reduceIte,iS,iA,iN,hz];done) | rfl
   case hH3=>first | (simp (disch:=omega) only [hds,liveT,cleanAV,cleanCell,clean1,cleanBlk,reduceIte,iS,iA,iN,hz];done) | rfl
   ·dsimp only
    refine ⟨by omega,by rw [List.length_set];exact hlen,by omega,?_⟩
    have e:=u32_nat (18446744073709551616 + dgt (osl a) k - dgt (osl b) k - c)
    rw [show ((18446744073709551616 + dgt (osl a) k - dgt (osl b) k - c:Nat):Int) = 18446744073709551616 + (dgt (osl a) k:Int) - dgt (osl b) k - c by omega] at e
    rw [low_set _ _ (by omega),e,low_succ,low_succ]
    rw [if_pos hb1,if_pos hb1] at hst
    rw [show (18446744073709551616 + dgt (osl a) k - dgt (osl b) k - c) % 4294967296 = 4294967296 + dgt (osl a) k - dgt (osl b) k - c by omega]
    exact hst
   ·dsimp only;omega
  ·repeat (first | (with_reducible first | refine Way.imp ?_ | refine blk_o rfl ?_) | ((with_reducible refine WayR.imp (fun K hK=>?_));simp (disch:=first | omega | (simp only [dls];omega)) only [std,reduceIte,reduceCtorEq,iT,nA,nS,nM,iA,iS,iM,iN,fU,conv_u32,shr63,setU];subst hK) | (apply call_flat (at_C a k (by omega)) rfl;(case hcl=>(simp only [evs,St.ev,constAV,evl];(repeat (first | exact closeAVs_nil | (apply closeAVs_cons;(first | (refine close_own3 rfl (by decide)) | (refine close_ownO rfl (by decide) ?_;assumption) | rfl))));done));(case hf=>rfl)) | (apply call_flat (at_C b k (by omega)) rfl;(case hcl=>(simp only [evs,St.ev,constAV,evl];(repeat (first | exact closeAVs_nil | (apply closeAVs_cons;(first | (refine close_own3 rfl (by decide)) | (refine close_ownO rfl (by decide) ?_;assumption) | rfl))));done));(case hf=>rfl)))
   have hz:((dgt (osl a) k:Int) - dgt (osl b) k - c) / 9223372036854775808 = ((0:Nat):Int):=by omega
   refine ⟨(k + 1,out.set k (u32 ((dgt (osl a) k:Int) - dgt (osl b) k - c)),0),?hI4,?hM4,Fgt.head (Nat.zero_le 1) [true,true,false,false,true,true,true,true,false,false,false,false,false,false,false,false,false,false,true,true] ?hT4 ?hH4⟩
   case hT4=>first | (simp (disch:=omega) only [hds,liveT,cleanAV,cleanCell,clean1,cleanBlk,reduceIte,iS,iA,iN,hz];done) | rfl
   case hH4=>first | (simp (disch:=omega) only [hds,liveT,cleanAV,cleanCell,clean1,cleanBlk,reduceIte,iS,iA,iN,hz];done) | rfl
   ·dsimp only
    refine ⟨by omega,by rw [List.length_set];exact hlen,by omega,?_⟩
    have e:=u32_nat (dgt (osl a) k - dgt (osl b) k - c)
    rw [show ((dgt (osl a) k - dgt (osl b) k - c:Nat):Int) = (dgt (osl a) k:Int) - dgt (osl b) k - c by omega] at e
    rw [low_set _ _ (by omega),e,low_succ,low_succ]
    rw [if_neg hb1,if_neg hb1] at hst
    rw [show (dgt (osl a) k - dgt (osl b) k - c) % 4294967296 = dgt (osl a) k - dgt (osl b) k - c by omega]
    exact hst
   ·dsimp only;omega
end Go.Proofs.Ytncgbjhojbnecaa
namespace Go.Proofs.Ytncgbjhojbnecaa
open Go Go.Am Go.Proofs Go.Off
open Nat renaming reduceAdd -> nA,reduceSub -> nS,reduceMul -> nM,reduceBEq -> nB
open Int renaming reduceToNat -> iT,reduceAdd -> iA,reduceSub -> iS,reduceMul -> iM,reduceNeg -> iN
abbrev c54_k1:CC:=(.seq (.reg [⟨some 65,none,.mv (.tmp 5)⟩,⟨some 66,none,.callf (.func 80) [(.tmp 65)]⟩,⟨some 4,none,.mv (.tmp 66)⟩]) .ret)
abbrev c54_k2:CC:=(.reg [⟨some 64,none,.bin .add (.tmp 19) (.const (.int .i64 (1)))⟩,⟨some 19,none,.mv (.tmp 64)⟩])
abbrev c54_k3:CC:=(.reg [⟨some 56,none,.mv (.tmp 5)⟩,⟨some 57,none,.mv (.tmp 6)⟩,⟨some 58,none,.mv (.tmp 1)⟩,⟨some 59,none,.len false (.tmp 58)⟩,⟨some 60,none,.bin .add (.tmp 57) (.tmp 59)⟩,⟨some 61,none,.mv (.tmp 8)⟩,⟨some 62,none,.conv .u32 (.tmp 61)⟩,⟨some 63,none,.iaddr 1 none (.tmp 56) (.tmp 60)⟩,⟨none,none,.store 1 (.tmp 63) (.tmp 62)⟩])
abbrev c54_b1:CC:=(.seq (.reg [⟨some 27,none,.bin .lss (.tmp 26) (.tmp 25)⟩]) (.seq (.cond (.tmp 27) .skip (.exit 2)) (.seq (.block 3 (.seq (.reg [⟨some 28,none,.mv (.tmp 26)⟩,⟨some 29,none,.iaddr 1 none (.tmp 24) (.tmp 26)⟩,⟨some 30,none,.load 1 false (.tmp 29)⟩,⟨some 9,none,.mv (.tmp 28)⟩,⟨some 10,none,.mv (.tmp 30)⟩]) (.seq (.reg [⟨some 31,none,.mv (.tmp 8)⟩,⟨some 32,none,.mv (.tmp 7)⟩,⟨some 33,none,.conv .u64 (.tmp 32)⟩,⟨some 34,none,.mv (.tmp 10)⟩,⟨some 35,none,.conv .u64 (.tmp 34)⟩,⟨some 36,none,.bin .mul (.tmp 33) (.tmp 35)⟩,⟨some 37,none,.mv (.tmp 5)⟩,⟨some 38,none,.mv (.tmp 6)⟩,⟨some 39,none,.mv (.tmp 9)⟩,⟨some 40,none,.bin .add (.tmp 38) (.tmp 39)⟩,⟨some 41,none,.iaddr 1 none (.tmp 37) (.tmp 40)⟩,⟨some 42,none,.load 1 false (.tmp 41)⟩,⟨some 43,none,.conv .u64 (.tmp 42)⟩,⟨some 44,none,.bin .add (.tmp 36) (.tmp 43)⟩,⟨some 45,none,.bin .add (.tmp 31) (.tmp 44)⟩,⟨some 8,none,.mv (.tmp 45)⟩]) (.seq (.reg [⟨some 46,none,.mv (.tmp 5)⟩,⟨some 47,none,.mv (.tmp 6)⟩,⟨some 48,none,.mv (.tmp 9)⟩,⟨some 49,none,.bin .add (.tmp 47) (.tmp 48)⟩,⟨some 50,none,.mv (.tmp 8)⟩,⟨some 51,none,.conv .u32 (.tmp 50)⟩,⟨some 52,none,.iaddr 1 none (.tmp 46) (.tmp 49)⟩,⟨none,none,.store 1 (.tmp 52) (.tmp 51)⟩]) (.reg [⟨some 53,none,.mv (.tmp 8)⟩,⟨some 54,none,.bin .shr (.tmp 53) (.const (.int .u64 (32)))⟩,⟨some 8,none,.mv (.tmp 54)⟩]))))) (.reg [⟨some 55,none,.bin .add (.tmp 26) (.const (.int .i64 (1)))⟩,⟨some 26,none,.mv (.tmp 55)⟩]))))
abbrev c54_b2:CC:=(.seq (.reg [⟨some 20,none,.bin .lss (.tmp 19) (.tmp 18)⟩]) (.seq (.cond (.tmp 20) .skip (.exit 0)) (.seq (.block 1 (.seq (.reg [⟨some 21,none,.mv (.tmp 19)⟩,⟨some 22,none,.iaddr 1 none (.tmp 17) (.tmp 19)⟩,⟨some 23,none,.load 1 false (.tmp 22)⟩,⟨some 6,none,.mv (.tmp 21)⟩,⟨some 7,none,.mv (.tmp 23)⟩]) (.seq (.reg [⟨some 8,none,.mv (.const (.int .u64 (0)))⟩]) (.seq (.seq (.reg [⟨some 24,none,.mv (.tmp 1)⟩,⟨some 25,none,.len false (.tmp 24)⟩,⟨some 26,none,.mv (.const (.int .i64 (0)))⟩]) (.block 2 (.loop c54_b1))) c54_k3)))) c54_k2)))
abbrev c54:CC:=(.seq (.reg [⟨some 4,none,.mv (.const (.slice none 0 0))⟩]) (.seq (.reg [⟨some 11,none,.mv (.tmp 0)⟩,⟨some 12,none,.len false (.tmp 11)⟩,⟨some 13,none,.mv (.tmp 1)⟩,⟨some 14,none,.len false (.tmp 13)⟩,⟨some 15,none,.bin .add (.tmp 12) (.tmp 14)⟩,⟨some 16,none,.make 118 1 4 [(.int .u32 (0))] (.tmp 15) (.tmp 15)⟩,⟨some 5,none,.mv (.tmp 16)⟩]) (.seq (.seq (.reg [⟨some 17,none,.mv (.tmp 0)⟩,⟨some 18,none,.len false (.tmp 17)⟩,⟨some 19,none,.mv (.const (.int .i64 (0)))⟩]) (.block 0 (.loop c54_b2))) c54_k1)))
theorem cc54:ccode Try.prog [] (Try.f54.body.getD .skip) = some c54:=by kernel_rfl
theorem body54:Try.f54.body = some (Try.f54.body.getD .skip):=rfl
theorem mul_C (a b:Row) (ha:(osl a).length <= 500000000) (hb:(osl b).length <= 500000000):PureC Try.prog 54 [aN a,aN b] (.ret (aN (rowN (a.val * b.val)))):=by
 refine pureC_of (rs:=[(RV.tmp 4)]) Try.func54 (fun a w=>Try.call54 a w) body54 cc54 (by kernel_rfl) ?_
 rw [Try.ntmps54]
 simp only [frs,nA,nS]
 have hm:((osl a).length:Int) + ((osl b).length:Int) = (((osl a).length + (osl b).length:Nat):Int):=by omega
 repeat (first | (with_reducible first | refine Way.imp ?_ | refine blk_o rfl ?_) | ((with_reducible refine WayR.imp (fun K hK=>?_));simp (disch:=first | omega | (simp only [dls];omega)) only [std,reduceIte,reduceCtorEq,iT,nA,nS,nM,iA,iS,iM,iN,fU,hm,repU,List.length_replicate];subst hK))
 refine awp_loop (fun (zz:Nat × (List UInt32))=>⟨(aN a :: aN b :: .junk :: .junk :: .one (.c (.val (.slice none 0 0))) :: .one (.own 0 0) :: .junk :: .junk :: .junk :: .junk :: .junk :: .junk :: .junk :: .junk :: .junk :: .junk :: .junk :: aN a :: aI (osl a).length :: aI zz.1 :: .junk :: .junk :: .junk :: .junk :: .junk :: .junk :: .junk :: .junk :: .junk :: .junk :: .junk :: .junk :: .junk :: .junk :: .junk :: .junk :: .junk :: .junk :: .junk :: .junk :: .junk :: .junk :: .junk :: .junk :: .junk :: .junk :: .junk :: .junk :: .junk :: .junk :: .junk :: .junk :: .junk :: .junk :: .junk :: .junk :: .junk :: .junk :: .junk :: .junk :: .junk :: .junk :: .junk :: .junk :: .junk :: .junk :: .junk :: []),[⟨0,118,1,encB fU zz.2,true,true⟩]⟩) (fun (zz:Nat × (List UInt32))=>zz.1 <= (osl a).length /\ zz.2.length = (osl a).length + (osl b).length /\ val zz.2 = low (osl a) zz.1 * val (osl b) /\ ∀ j,zz.1 + (osl b).length <= j -> dgt zz.2 j = 0) (fun (zz:Nat × (List UInt32))=>(osl a).length - zz.1) (0,List.replicate ((osl a).length + (osl b).length) 0) ?hI1 (Fgt.head (Nat.zero_le 1) [true,true,false,false,true,true,false,false,false,false,false,false,false,false,false,false,false,true,true,true] ?hT1 ?hH1) ?hB1
 case hT1=>first | (simp (disch:=omega) only [hds,liveT,cleanAV,cleanCell,clean1,cleanBlk,reduceIte,iS,iA,iN];done) | rfl
 case hH1=>first | (simp (disch:=omega) only [hds,liveT,cleanAV,cleanCell,clean1,cleanBlk,reduceIte,iS,iA,iN];done) | rfl
 ·dsimp only;exact ⟨by omega,List.length_replicate,by rw [val_replicate,low_zero,Nat.zero_mul],fun j _=>dgt_replicate _ _⟩
 rintro ⟨i,out⟩ ⟨hi,hlen,hval,hz⟩
 dsimp only at hi hlen hval hz
 by_cases him:i = (osl a).length
 ·have ht:=trim_C (some out) (by show out.length <= _;omega)
  rw [Option.map_some] at ht
  repeat (first | (with_reducible first | refine Way.imp ?_ | refine blk_o rfl ?_) | ((with_reducible refine WayR.imp (fun K hK=>?_));simp (disch:=first | omega | (simp only [dls];omega)) only [std,reduceIte,reduceCtorEq,iT,nA,nS,nM,iA,iS,iM,iN,fU];subst hK) | (apply call_ret (ht) rfl;(case hcl=>(simp only [evs,St.ev,constAV,evl];(repeat (first | exact closeAVs_nil | (apply closeAVs_cons;(first | (refine close_own3 rfl (by decide)) | (refine close_ownO rfl (by decide) ?_;assumption) | rfl))));done));(case hf=>rfl);(case hu=>(simp only [evs,St.ev,constAV,evl];(repeat (first | exact used_nil | (apply used_cons;(first | (apply used_own3;rfl) | rfl))));done));(case hh=>((simp only [fzl,nB,nA,Bool.false_eq_true,if_true,if_false,reduceIte]) <;> rfl))))
  refine ⟨_,rfl,?_⟩
  rw [hval,low_all _ (by omega)]
  exact Ends.ret_c
 ·have hx:=dgt_lt (osl a) i
  have hdx:=dgt_eq (osl a) i (by omega)
  repeat (first | (with_reducible first | refine Way.imp ?_ | refine blk_o rfl ?_) | ((with_reducible refine WayR.imp (fun K hK=>?_));simp (disch:=first | omega | (simp only [dls];omega)) only [std,reduceIte,reduceCtorEq,iT,nA,nS,nM,iA,iS,iM,iN,fU,<- hdx];subst hK))
  refine awp_loop (fun (zz:Nat × (List UInt32) × Nat)=>⟨(aN a :: aN b :: .junk :: .junk :: .one (.c (.val (.slice none 0 0))) :: .one (.own 0 0) :: aI i :: aU32 (dgt (osl a) i) :: aU zz.2.2 :: .junk :: .junk :: .junk :: .junk :: .junk :: .junk :: .junk :: .junk :: aN a :: aI (osl a).length :: aI i :: .junk :: .junk :: .junk :: .junk :: aN b :: aI (osl b).length :: aI zz.1 :: .junk :: .junk :: .junk :: .junk :: .junk :: .junk :: .junk :: .junk :: .junk :: .junk :: .junk :: .junk :: .junk :: .junk :: .junk :: .junk :: .junk :: .junk :: .junk :: .junk :: .junk :: .junk :: .junk :: .junk :: .junk :: .junk :: .junk :: .junk :: .junk :: .junk :: .junk :: .junk :: .junk :: .junk :: .junk :: .junk :: .junk :: .junk :: .junk :: .junk :: []),[⟨0,118,1,encB fU zz.2.1,true,true⟩]⟩) (fun (zz:Nat × (List UInt32) × Nat)=>zz.1 <= (osl b).length /\ zz.2.1.length = (osl a).length + (osl b).length /\ zz.2.2 < 4294967296 /\ val zz.2.1 + W ^ (i + zz.1) * zz.2.2 = low (osl a) i * val (osl b) + dgt (osl a) i * W ^ i * low (osl b) zz.1 /\ ∀ j,i + (osl b).length <= j -> dgt zz.2.1 j = 0) (fun (zz:Nat × (List UInt32) × Nat)=>(osl b).length - zz.1) (0,out,0) ?hI2 (Fgt.head (Nat.zero_le 1) [true,true,false,false,true,true,true,true,true,false,false,false,false,false,false,false,false,true,true,true,false,false,false,false,true,true,true] ?hT2 ?hH2) ?hB2
  case hT2=>first | (simp (disch:=omega) only [hds,liveT,cleanAV,cleanCell,clean1,cleanBlk,reduceIte,iS,iA,iN];done) | rfl
  case hH2=>first | (simp (disch:=omega) only [hds,liveT,cleanAV,cleanCell,clean1,cleanBlk,reduceIte,iS,iA,iN];done) | rfl
  ·dsimp only;exact ⟨by omega,hlen,by omega,by rw [hval,low_zero];simp,hz⟩
  clear hdx hval hlen hz
  rintro ⟨k,out2,c⟩ ⟨hk,hlen,hc,hval,hz⟩
  dsimp only at hk hlen hc hval hz
  by_cases hkm:k = (osl b).length
  ·have hib:((i:Int) + ((osl b).length:Int)).toNat = i + (osl b).length:=by omega
   repeat (first | (with_reducible first | refine Way.imp ?_ | refine blk_o rfl ?_) | ((with_reducible refine WayR.imp (fun K hK=>?_));simp (disch:=first | omega | (simp only [dls];omega)) only [std,reduceIte,reduceCtorEq,iT,nA,nS,nM,iA,iS,iM,iN,fU,hib,conv_u32,setU];subst hK))
   refine ⟨(i + 1,out2.set (i + (osl b).length) (u32 (c:Int))),?hI3,?hM3,Fgt.head (Nat.zero_le 1) [true,true,false,false,true,true,false,false,false,false,false,false,false,false,false,false,false,true,true,true] ?hT3 ?hH3⟩
   case hT3=>first | (simp (disch:=omega) only [hds,liveT,cleanAV,cleanCell,clean1,cleanBlk,reduceIte,iS,iA,iN];done) | rfl
   case hH3=>first | (simp (disch:=omega) only [hds,liveT,cleanAV,cleanCell,clean1,cleanBlk,reduceIte,iS,iA,iN];done) | rfl
   ·dsimp only
    refine ⟨by omega,by rw [List.length_set];exact hlen,?_,fun j hj=>?_⟩
    ·have e:=val_set out2 (i + (osl b).length) (by omega) (u32 (c:Int))
     rw [hz _ (Nat.le_refl _),u32_nat,Nat.mod_eq_of_lt hc] at e
     subst hkm
     rw [low_all (osl b) (Nat.le_refl _)] at hval
     rw [low_succ,Nat.add_mul]
     have e2:4294967296 ^ i * dgt (osl a) i * val (osl b) = dgt (osl a) i * W ^ i * val (osl b):=by ac_rfl
     rw [e2,<- hval,<- e]
     simp
    ·rw [dgt_set_ne _ _ _ _ (by omega)]
     exact hz j (by omega)
   ·dsimp only;omega
  ·have hy:=dgt_lt (osl b) k
   have hdy:=dgt_eq (osl b) k (by omega)
   have ho:=dgt_lt out2 (i + k)
   have hdo:=dgt_eq out2 (i + k) (by omega)
   have hik:((i:Int) + (k:Int)).toNat = i + k:=by omega
   have hxy:dgt (osl a) i * dgt (osl b) k <= 4294967295 * 4294967295:=Nat.mul_le_mul (by omega) (by omega)
   have hxyI:(dgt (osl a) i:Int) * (dgt (osl b) k:Int) = ((dgt (osl a) i * dgt (osl b) k:Nat):Int):=by simp
   repeat (first | (with_reducible first | refine Way.imp ?_ | refine blk_o rfl ?_) | ((with_reducible refine WayR.imp (fun K hK=>?_));simp (disch:=first | omega | (simp only [dls];omega)) only [std,reduceIte,reduceCtorEq,iT,nA,nS,nM,iA,iS,iM,iN,fU,hik,hxyI,<- hdy,<- hdo,conv_u32,setU,shr32];subst hK))
   refine ⟨(k + 1,out2.set (i + k) (u32 ((c:Int) + (((dgt (osl a) i * dgt (osl b) k:Nat):Int) + dgt out2 (i + k)))),(c + (dgt (osl a) i * dgt (osl b) k + dgt out2 (i + k))) / 4294967296),?hI4,?hM4,Fgt.head (Nat.zero_le 1) [true,true,false,false,true,true,true,true,true,false,false,false,false,false,false,false,false,true,true,true,false,false,false,false,true,true,true] ?hT4 ?hH4⟩
   case hT4=>first | (simp (disch:=omega) only [hds,liveT,cleanAV,cleanCell,clean1,cleanBlk,reduceIte,iS,iA,iN];done) | rfl
   case hH4=>first | (simp (disch:=omega) only [hds,liveT,cleanAV,cleanCell,clean1,cleanBlk,reduceIte,iS,iA,iN];done) | rfl
   ·dsimp only
    have e:=u32_nat (c + (dgt (osl a) i * dgt (osl b) k + dgt out2 (i + k)))
    rw [Int.natCast_add c,Int.natCast_add (dgt (osl a) i * dgt (osl b) k)] at e
    have hV:=val_set out2 (i + k) (by omega) (u32 ((c:Int) + (((dgt (osl a) i * dgt (osl b) k:Nat):Int) + dgt out2 (i + k))))
    rw [e] at hV
    refine ⟨by omega,by rw [List.length_set];exact hlen,?_,?_,fun j hj=>?_⟩
    ·generalize dgt (osl a) i * dgt (osl b) k = p at *
     omega
    ·rw [low_succ]
     exact mul_step hV hval
    ·rw [dgt_set_ne _ _ _ _ (by omega)]
     exact hz j (by omega)
   ·dsimp only;omega
end Go.Proofs.Ytncgbjhojbnecaa
