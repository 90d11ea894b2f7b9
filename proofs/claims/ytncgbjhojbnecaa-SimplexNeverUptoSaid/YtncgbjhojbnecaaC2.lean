/- Walks of nat: Small. -/
import Derived.Test.YtncgbjhojbnecaaB1
import Derived.Test.YtncgbjhojbnecaaC1
set_option linter.unusedSimpArgs false
set_option linter.unusedVariables false
set_option linter.unnecessarySimpa false
set_option maxRecDepth 100000
set_option maxHeartbeats 4000000
namespace Go.Proofs.Ytncgbjhojbnecaa
open Go Go.Am Go.Proofs Go.Off
open Nat renaming reduceAdd -> nA,reduceSub -> nS,reduceMul -> nM,reduceBEq -> nB
open Int renaming reduceToNat -> iT,reduceAdd -> iA,reduceSub -> iS,reduceMul -> iM,reduceNeg -> iN
theorem small_or {n d:Nat} (hd:d < 4294967296):orI .u64 ((n * 4294967296 % 18446744073709551616:Nat):Int) (d:Int) = ((n * 4294967296 % 18446744073709551616 + d:Nat):Int):=by
 rw [orI_u64 (by omega) (by omega)]
 have e2:n * 4294967296 % 18446744073709551616 = 2 ^ 32 * (n % 4294967296):=by omega
 rw [e2,or_add (by simpa using hd)]
abbrev c93_k1:CC:=(.seq (.reg [⟨some 21,none,.load 1 false (.tmp 4)⟩,⟨some 2,none,.mv (.tmp 21)⟩,⟨some 3,none,.mv (.const (.bool true))⟩]) .ret)
abbrev c93_b1:CC:=(.block 1 (.reg [⟨some 16,none,.load 1 false (.tmp 4)⟩,⟨some 17,none,.bin .shl (.tmp 16) (.const (.int .u64 (32)))⟩,⟨some 18,none,.mv (.tmp 6)⟩,⟨some 19,none,.conv .u64 (.tmp 18)⟩,⟨some 20,none,.bin .or (.tmp 17) (.tmp 19)⟩,⟨none,none,.store 1 (.tmp 4) (.tmp 20)⟩]))
abbrev c93:CC:=(.seq (.reg [⟨some 2,none,.mv (.const (.int .u64 (0)))⟩,⟨some 3,none,.mv (.const (.bool false))⟩]) (.seq (.reg [⟨some 7,none,.mv (.tmp 0)⟩,⟨some 8,none,.callf (.func 80) [(.tmp 7)]⟩,⟨some 0,none,.mv (.tmp 8)⟩]) (.seq (.seq (.reg [⟨some 9,none,.mv (.tmp 0)⟩,⟨some 10,none,.len false (.tmp 9)⟩,⟨some 11,none,.bin .gtr (.tmp 10) (.const (.int .i64 (2)))⟩]) (.cond (.tmp 11) (.seq (.reg [⟨some 2,none,.mv (.const (.int .u64 (0)))⟩,⟨some 3,none,.mv (.const (.bool false))⟩]) .ret) .skip)) (.seq (.reg [⟨some 4,none,.new 88 [(.int .u64 (0))]⟩,⟨none,none,.store 1 (.tmp 4) (.const (.int .u64 (0)))⟩]) (.seq (.seq (.reg [⟨some 12,none,.mv (.tmp 0)⟩,⟨some 13,none,.callf (.func 92) [(.tmp 12)]⟩]) (.block 0 (.rf (.tmp 13) [14,15] [(6,15)] c93_b1))) c93_k1)))))
theorem cc93:ccode Try.prog [] (Try.f93.body.getD .skip) = some c93:=by kernel_rfl
theorem body93:Try.f93.body = some (Try.f93.body.getD .skip):=rfl
theorem small_C (a:Row) (ha:(osl a).length <= 1000000000) (hlt:a.val < 18446744073709551616):PureC Try.prog 93 [aN a] (.ret (.tup [aU a.val,aB true])):=by
 refine pureC_of (rs:=[(RV.tmp 2),(RV.tmp 3)]) Try.func93 (fun a w=>Try.call93 a w) body93 cc93 (by kernel_rfl) ?_
 rw [Try.ntmps93]
 simp only [frs,nA,nS]
 have hta:=trim_C a (by omega)
 change PureC _ _ _ (.ret (aN (trimR a))) at hta
 have hsa:=trimR_ds a
 have hla:=digits_len_row a
 rw [<- hsa] at hla
 generalize trimR a = s at *
 have hl2:(osl s).length <= 2:=by rw [hsa];exact digits_len_le (by simpa using hlt)
 have hvs:val (osl s) = a.val:=by rw [hsa,val_digits]
 repeat (first | (with_reducible first | refine Way.imp ?_ | refine blk_o rfl ?_) | ((with_reducible refine WayR.imp (fun K hK=>?_));simp (disch:=first | omega | (simp only [dls];omega)) only [std,reduceIte,reduceCtorEq,iT,nA,nS,nM,iA,iS,iM,iN,fU];subst hK) | refine zcA (hta) rfl rfl rfl ?_ | refine zcA (backward_C _) rfl rfl rfl ?_)
 refine awp_fold (back_iter s (by omega)) rfl (by simp [closedCell]) (fun (n:Nat)=>[⟨0,88,1,[[.c (.val (.int .u64 (n:Int)))]],true,true⟩]) (fun n k=>n * 4294967296 % 18446744073709551616 + dgt (osl s) k.1) (fun _ n=>n < 18446744073709551616) 0 rfl (by omega) ?_ ?_
 ·intro i n k _ hn
  have hd:=dgt_lt (osl s) k.1
  rw [show backAV (osl s) k = [aI (k.1:Int),aU32 (dgt (osl s) k.1:Nat)] from by rw [dgt_eq _ _ k.2]]
  simp only [mvT,setps,rnd,nA]
  have hs:=shlI_u64 (n:=32) (m:=4294967296) n (by decide) (by decide)
  have ho:=small_or (n:=n) hd
  have hp:n * 4294967296 % 18446744073709551616 + dgt (osl s) k.1 < 18446744073709551616:=by omega
  generalize n * 4294967296 % 18446744073709551616 = p at hs ho hp
  repeat (first | (with_reducible first | refine Way.imp ?_ | refine blk_o rfl ?_) | ((with_reducible refine WayR.imp (fun K hK=>?_));simp (disch:=first | omega | (simp only [dls];omega)) only [std,reduceIte,reduceCtorEq,iT,nA,nS,nM,iA,iS,iM,iN,fU,hs,ho];subst hK))
  refine ⟨_,⟨rfl,?hI1⟩,_,Fgt.head (Nat.le_refl _) [] rfl ?hH1⟩
  case hH1=>first | (simp (disch:=omega) only [hds,liveT,cleanAV,cleanCell,clean1,cleanBlk,reduceIte,iS,iA,iN];done) | rfl
  exact hp
 ·intro _
  have hf:=foldl_downs (osl s).length (fun n k=>n * 4294967296 % 18446744073709551616 + dgt (osl s) k.1) (fun k n=>n = val ((osl s).drop k)) 0 (by simp [val]) (fun k b hb=>by
   subst hb
   have h1:=val_lt ((osl s).drop (k.1 + 1))
   have h2:((osl s).drop (k.1 + 1)).length <= 1:=by simp;omega
   have h3:val ((osl s).drop (k.1 + 1)) < 4294967296 ^ 1:=Nat.lt_of_lt_of_le h1 (Nat.pow_le_pow_right (by decide) h2)
   have h4:=val_drop (osl s) k.1 k.2
   rw [<- dgt_eq (osl s) k.1 k.2] at h4
   show _ = val ((osl s).drop k.1)
   rw [h4]
   have hd:=dgt_lt (osl s) k.1
   simp at h3
   omega)
  simp only [List.drop_zero,hvs] at hf
  rw [hf]
  repeat (first | (with_reducible first | refine Way.imp ?_ | refine blk_o rfl ?_) | ((with_reducible refine WayR.imp (fun K hK=>?_));simp (disch:=first | omega | (simp only [dls];omega)) only [std,reduceIte,reduceCtorEq,iT,nA,nS,nM,iA,iS,iM,iN,fU];subst hK))
  exact ⟨_,rfl,rfl⟩
abbrev c95_k1:CC:=(.seq (.reg [⟨some 61,none,.mv (.tmp 5)⟩,⟨some 62,none,.callf (.func 80) [(.tmp 61)]⟩,⟨some 4,none,.mv (.tmp 62)⟩]) .ret)
abbrev c95_b1:CC:=(.seq (.reg [⟨some 27,none,.bin .lss (.tmp 26) (.tmp 25)⟩]) (.seq (.cond (.tmp 27) .skip (.exit 0)) (.seq (.block 1 (.seq (.reg [⟨some 28,none,.mv (.tmp 26)⟩,⟨some 29,none,.iaddr 1 none (.tmp 24) (.tmp 26)⟩,⟨some 30,none,.load 1 false (.tmp 29)⟩,⟨some 6,none,.mv (.tmp 28)⟩,⟨some 7,none,.mv (.tmp 30)⟩]) (.seq (.reg [⟨some 31,none,.mv (.tmp 7)⟩,⟨some 32,none,.conv .u64 (.tmp 31)⟩,⟨some 33,none,.mv (.tmp 1)⟩,⟨some 34,none,.bin .rem (.tmp 33) (.const (.int .i64 (32)))⟩,⟨some 35,none,.bin .shl (.tmp 32) (.tmp 34)⟩,⟨some 8,none,.mv (.tmp 35)⟩]) (.seq (.reg [⟨some 36,none,.mv (.tmp 5)⟩,⟨some 37,none,.mv (.tmp 6)⟩,⟨some 38,none,.mv (.tmp 1)⟩,⟨some 39,none,.bin .quo (.tmp 38) (.const (.int .i64 (32)))⟩,⟨some 40,none,.bin .add (.tmp 37) (.tmp 39)⟩,⟨some 41,none,.iaddr 1 none (.tmp 36) (.tmp 40)⟩,⟨some 42,none,.load 1 false (.tmp 41)⟩,⟨some 43,none,.mv (.tmp 8)⟩,⟨some 44,none,.conv .u32 (.tmp 43)⟩,⟨some 45,none,.bin .or (.tmp 42) (.tmp 44)⟩,⟨some 46,none,.iaddr 1 none (.tmp 36) (.tmp 40)⟩,⟨none,none,.store 1 (.tmp 46) (.tmp 45)⟩]) (.reg [⟨some 47,none,.mv (.tmp 5)⟩,⟨some 48,none,.mv (.tmp 6)⟩,⟨some 49,none,.mv (.tmp 1)⟩,⟨some 50,none,.bin .quo (.tmp 49) (.const (.int .i64 (32)))⟩,⟨some 51,none,.bin .add (.tmp 48) (.tmp 50)⟩,⟨some 52,none,.bin .add (.tmp 51) (.const (.int .i64 (1)))⟩,⟨some 53,none,.iaddr 1 none (.tmp 47) (.tmp 52)⟩,⟨some 54,none,.load 1 false (.tmp 53)⟩,⟨some 55,none,.mv (.tmp 8)⟩,⟨some 56,none,.bin .shr (.tmp 55) (.const (.int .u64 (32)))⟩,⟨some 57,none,.conv .u32 (.tmp 56)⟩,⟨some 58,none,.bin .or (.tmp 54) (.tmp 57)⟩,⟨some 59,none,.iaddr 1 none (.tmp 47) (.tmp 52)⟩,⟨none,none,.store 1 (.tmp 59) (.tmp 58)⟩]))))) (.reg [⟨some 60,none,.bin .add (.tmp 26) (.const (.int .i64 (1)))⟩,⟨some 26,none,.mv (.tmp 60)⟩]))))
abbrev c95:CC:=(.seq (.reg [⟨some 4,none,.mv (.const (.slice none 0 0))⟩]) (.seq (.seq (.reg [⟨some 9,none,.mv (.tmp 1)⟩,⟨some 10,none,.bin .lss (.tmp 9) (.const (.int .i64 (0)))⟩,⟨some 11,none,.mv (.tmp 10)⟩,⟨some 12,(some (11,false)),.mv (.tmp 1)⟩,⟨some 13,(some (11,false)),.bin .gtr (.tmp 12) (.const (.int .i64 (65536)))⟩,⟨some 14,none,.pick (.tmp 11) (.const (.bool true)) (.tmp 13)⟩]) (.cond (.tmp 14) (.seq (.reg [⟨some 15,none,.mv (.tmp 0)⟩,⟨some 16,none,.callf (.func 80) [(.tmp 15)]⟩,⟨some 4,none,.mv (.tmp 16)⟩]) .ret) .skip)) (.seq (.reg [⟨some 17,none,.mv (.tmp 0)⟩,⟨some 18,none,.len false (.tmp 17)⟩,⟨some 19,none,.mv (.tmp 1)⟩,⟨some 20,none,.bin .quo (.tmp 19) (.const (.int .i64 (32)))⟩,⟨some 21,none,.bin .add (.tmp 18) (.tmp 20)⟩,⟨some 22,none,.bin .add (.tmp 21) (.const (.int .i64 (1)))⟩,⟨some 23,none,.make 118 1 4 [(.int .u32 (0))] (.tmp 22) (.tmp 22)⟩,⟨some 5,none,.mv (.tmp 23)⟩]) (.seq (.seq (.reg [⟨some 24,none,.mv (.tmp 0)⟩,⟨some 25,none,.len false (.tmp 24)⟩,⟨some 26,none,.mv (.const (.int .i64 (0)))⟩]) (.block 0 (.loop c95_b1))) c95_k1))))
theorem cc95:ccode Try.prog [] (Try.f95.body.getD .skip) = some c95:=by kernel_rfl
theorem body95:Try.f95.body = some (Try.f95.body.getD .skip):=rfl
theorem shift_C (a:Row) (n:Nat) (ha:(osl a).length <= 1000000000) (hn:n < 32):PureC Try.prog 95 [aN a,aI n] (.ret (aN (rowN (a.val * 2 ^ n)))):=by
 refine pureC_of (rs:=[(RV.tmp 4)]) Try.func95 (fun a w=>Try.call95 a w) body95 cc95 (by kernel_rfl) ?_
 rw [Try.ntmps95]
 simp only [frs,nA,nS]
 have hq:((n:Int).tdiv 32) = 0:=by rw [tdiv_nn (by omega)];omega
 have hr:((n:Int).tmod 32) = n:=by rw [tmod_nn (by omega)];omega
 have hl1:(((osl a).length:Int) + 1) = (((osl a).length + 1:Nat):Int):=by omega
 repeat (first | (with_reducible first | refine Way.imp ?_ | refine blk_o rfl ?_) | ((with_reducible refine WayR.imp (fun K hK=>?_));simp (disch:=first | omega | (simp only [dls];omega)) only [std,reduceIte,reduceCtorEq,iT,nA,nS,nM,iA,iS,iM,iN,fU,hq,hr,hl1,repU,List.length_replicate,Int.add_zero];subst hK))
 refine awp_loop (fun (zz:Nat × (List UInt32))=>⟨(aN a :: aI n :: .junk :: .junk :: .one (.c (.val (.slice none 0 0))) :: .one (.own 0 0) :: .junk :: .junk :: .junk :: .junk :: .junk :: .junk :: .junk :: .junk :: .junk :: .junk :: .junk :: .junk :: .junk :: .junk :: .junk :: .junk :: .junk :: .junk :: aN a :: aI (osl a).length :: aI zz.1 :: .junk :: .junk :: .junk :: .junk :: .junk :: .junk :: .junk :: .junk :: .junk :: .junk :: .junk :: .junk :: .junk :: .junk :: .junk :: .junk :: .junk :: .junk :: .junk :: .junk :: .junk :: .junk :: .junk :: .junk :: .junk :: .junk :: .junk :: .junk :: .junk :: .junk :: .junk :: .junk :: .junk :: .junk :: .junk :: .junk :: []),[⟨0,118,1,encB fU zz.2,true,true⟩]⟩) (fun (zz:Nat × (List UInt32))=>zz.1 <= (osl a).length /\ zz.2.length = (osl a).length + 1 /\ val zz.2 = low (osl a) zz.1 * 2 ^ n /\ (∀ j,zz.1 < j -> dgt zz.2 j = 0) /\ dgt zz.2 zz.1 < 2 ^ n) (fun (zz:Nat × (List UInt32))=>(osl a).length - zz.1) (0,List.replicate ((osl a).length + 1) 0) ?hI2 (Fgt.head (Nat.zero_le 1) [true,true,false,false,true,true,false,false,false,false,false,false,false,false,false,false,false,false,false,false,false,false,false,false,true,true,true] ?hT2 ?hH2) ?hB2
 case hT2=>first | (simp (disch:=omega) only [hds,liveT,cleanAV,cleanCell,clean1,cleanBlk,reduceIte,iS,iA,iN];done) | rfl
 case hH2=>first | (simp (disch:=omega) only [hds,liveT,cleanAV,cleanCell,clean1,cleanBlk,reduceIte,iS,iA,iN];done) | rfl
 ·dsimp only;exact ⟨by omega,List.length_replicate,by rw [val_replicate,low_zero,Nat.zero_mul],fun j _=>dgt_replicate _ _,by rw [dgt_replicate];exact Nat.pow_pos (by decide)⟩
 rintro ⟨k,out⟩ ⟨hk,hlen,hval,hz,hd⟩
 dsimp only at hk hlen hval hz hd
 by_cases hkm:k = (osl a).length
 ·have ht:=trim_C (some out) (by show out.length <= _;omega)
  rw [Option.map_some] at ht
  repeat (first | (with_reducible first | refine Way.imp ?_ | refine blk_o rfl ?_) | ((with_reducible refine WayR.imp (fun K hK=>?_));simp (disch:=first | omega | (simp only [dls];omega)) only [std,reduceIte,reduceCtorEq,iT,nA,nS,nM,iA,iS,iM,iN,fU];subst hK) | (apply call_ret (ht) rfl;(case hcl=>(simp only [evs,St.ev,constAV,evl];(repeat (first | exact closeAVs_nil | (apply closeAVs_cons;(first | (refine close_own3 rfl (by decide)) | (refine close_ownO rfl (by decide) ?_;assumption) | rfl))));done));(case hf=>rfl);(case hu=>(simp only [evs,St.ev,constAV,evl];(repeat (first | exact used_nil | (apply used_cons;(first | (apply used_own3;rfl) | rfl))));done));(case hh=>((simp only [fzl,nB,nA,Bool.false_eq_true,if_true,if_false,reduceIte]) <;> rfl))))
  refine ⟨_,rfl,?_⟩
  rw [hval,low_all _ (by omega)]
  exact Ends.ret_c
 ·have hx:=dgt_lt (osl a) k
  have hdx:=dgt_eq (osl a) k (by omega)
  have hdo:=dgt_eq out k (by omega)
  obtain ⟨ho,hv,hu,hy64⟩:=shl_word hn hx hd
  have hs:=shlI_u64 (n:=n) (dgt (osl a) k) (by omega) rfl
  rw [Nat.mod_eq_of_lt hy64] at hs
  generalize hy:dgt (osl a) k * 2 ^ n = y at *
  have hc:=wrap_u32_nat y
  have hor:=orI_u32 (x:=dgt out k) (y:=y % 4294967296) (dgt_lt _ _) (by omega)
  rw [show dgt out k ||| y % 4294967296 = (UInt32.ofNat (dgt out k + y % 4294967296)).toNat from by rw [ho,UInt32.toNat_ofNat',Nat.mod_eq_of_lt (show _ < 2 ^ 32 from hv)]] at hor
  have hvT:(UInt32.ofNat (dgt out k + y % 4294967296)).toNat = dgt out k + y % 4294967296:=by rw [UInt32.toNat_ofNat',Nat.mod_eq_of_lt (show _ < 2 ^ 32 from hv)]
  generalize UInt32.ofNat (dgt out k + y % 4294967296) = v at *
  have hd1:=dgt_eq (out.set k v) (k + 1) (by rw [List.length_set];omega)
  have hz1:dgt (out.set k v) (k + 1) = 0:=by rw [dgt_set_ne _ _ _ _ (by omega)];exact hz _ (by omega)
  have hyW:y / 4294967296 < 4294967296:=Nat.lt_of_lt_of_le hu (by have:=Nat.pow_le_pow_right (n:=2) (by decide) (show n <= 32 by omega);simpa using this)
  have hsh:=shr32 (y:Int) (by omega)
  have hc2:IntKind.u32.wrap ((y:Int) / 4294967296) = ((y / 4294967296:Nat):Int):=by rw [wu32 (by omega) (by omega)];simp
  obtain ⟨u,hu1⟩:∃ u:UInt32,u.toNat = y / 4294967296:=⟨UInt32.ofNat (y / 4294967296),by rw [UInt32.toNat_ofNat',Nat.mod_eq_of_lt (show _ < 2 ^ 32 from hyW)]⟩
  have hor2:orI .u32 ((0:Nat):Int) ((y / 4294967296:Nat):Int) = (u.toNat:Int):=by rw [orI_u32 (by decide) hyW,Nat.zero_or,hu1]
  have hk1:((k:Int) + 1).toNat = k + 1:=by omega
  repeat (first | (with_reducible first | refine Way.imp ?_ | refine blk_o rfl ?_) | ((with_reducible refine WayR.imp (fun K hK=>?_));simp (disch:=first | omega | (simp only [dls];omega)) only [std,reduceIte,reduceCtorEq,iT,nA,nS,nM,iA,iS,iM,iN,fU,<- hdx,hr,hq,hs,hc,hor,<- hdo,setU,Int.add_zero,hsh,hc2,hk1,<- hd1,hz1,hor2];subst hK))
  refine ⟨(k + 1,(out.set k v).set (k + 1) u),?hI3,?hM3,Fgt.head (Nat.zero_le 1) [true,true,false,false,true,true,false,false,false,false,false,false,false,false,false,false,false,false,false,false,false,false,false,false,true,true,true] ?hT3 ?hH3⟩
  case hT3=>first | (simp (disch:=omega) only [hds,liveT,cleanAV,cleanCell,clean1,cleanBlk,reduceIte,iS,iA,iN];done) | rfl
  case hH3=>first | (simp (disch:=omega) only [hds,liveT,cleanAV,cleanCell,clean1,cleanBlk,reduceIte,iS,iA,iN];done) | rfl
  ·dsimp only
   have e1:=val_set out k (by omega) v
   have e2:=val_set (out.set k v) (k + 1) (by rw [List.length_set];omega) u
   rw [hz1,hu1] at e2
   rw [hvT] at e1
   refine ⟨by omega,by rw [List.length_set,List.length_set];exact hlen,?_,fun j hj=>?_,?_⟩
   ·rw [low_succ]
    exact shl_val hy.symm e1 e2 hval
   ·rw [dgt_set_ne _ _ _ _ (by omega),dgt_set_ne _ _ _ _ (by omega)]
    exact hz j (by omega)
   ·rw [dgt_set_eq _ _ (by rw [List.length_set];omega),hu1]
    exact hu
  ·dsimp only;omega
end Go.Proofs.Ytncgbjhojbnecaa
namespace Go.Proofs.Ytncgbjhojbnecaa
open Go Go.Am Go.Proofs Go.Off
open Nat renaming reduceAdd -> nA,reduceSub -> nS,reduceMul -> nM,reduceBEq -> nB
open Int renaming reduceToNat -> iT,reduceAdd -> iA,reduceSub -> iS,reduceMul -> iM,reduceNeg -> iN
theorem osl_rowN (n:Nat):osl (rowN n) = digits n:=rfl
theorem digits_len_mono {a b:Nat} (h:a <= b):(digits a).length <= (digits b).length:=by
 have:=val_lt (digits b)
 rw [val_digits] at this
 exact digits_len_le (Nat.lt_of_le_of_lt h this)
theorem digits_len_shl (b k:Nat) (hk:k <= 32):(digits (b * 2 ^ k)).length <= (digits b).length + 1:=by
 have h1:=val_lt (digits b)
 rw [val_digits] at h1
 have h2:(2:Nat) ^ k <= 2 ^ 32:=Nat.pow_le_pow_right (by decide) hk
 refine digits_len_le ?_
 rw [Nat.pow_succ]
 calc b * 2 ^ k <= b * 2 ^ 32:=Nat.mul_le_mul_left _ h2
  _ < 4294967296 ^ (digits b).length * 4294967296:=Nat.mul_lt_mul_of_pos_right h1 (by decide)
abbrev c94_k1:CC:=(.seq (.reg [⟨some 28,none,.mv (.tmp 6)⟩,⟨some 29,none,.mv (.tmp 0)⟩,⟨some 4,none,.mv (.tmp 28)⟩,⟨some 5,none,.mv (.tmp 29)⟩]) .ret)
abbrev c94_b1:CC:=(.seq (.seq (.reg [⟨some 10,none,.mv (.tmp 7)⟩,⟨some 11,none,.bin .geq (.tmp 10) (.const (.int .i64 (0)))⟩]) (.cond (.tmp 11) .skip (.exit 0))) (.seq (.block 1 (.seq (.reg [⟨some 15,none,.mv (.tmp 0)⟩,⟨some 16,none,.mv (.tmp 1)⟩,⟨some 17,none,.mv (.tmp 7)⟩,⟨some 18,none,.callf (.func 95) [(.tmp 16),(.tmp 17)]⟩,⟨some 19,none,.callf (.func 85) [(.tmp 15),(.tmp 18)]⟩,⟨some 14,none,.mv (.tmp 19)⟩,⟨some 20,none,.ext (.tmp 14) 0⟩,⟨some 21,none,.ext (.tmp 14) 1⟩,⟨some 8,none,.mv (.tmp 20)⟩,⟨some 9,none,.mv (.tmp 21)⟩]) (.seq (.reg [⟨some 22,none,.mv (.tmp 9)⟩]) (.cond (.tmp 22) (.seq (.reg [⟨some 23,none,.mv (.tmp 8)⟩,⟨some 0,none,.mv (.tmp 23)⟩]) (.reg [⟨some 24,none,.mv (.tmp 6)⟩,⟨some 25,none,.mv (.tmp 7)⟩,⟨some 26,none,.bin .shl (.const (.int .u32 (1))) (.tmp 25)⟩,⟨some 27,none,.bin .or (.tmp 24) (.tmp 26)⟩,⟨some 6,none,.mv (.tmp 27)⟩])) .skip)))) (.reg [⟨some 12,none,.mv (.tmp 7)⟩,⟨some 13,none,.bin .sub (.tmp 12) (.const (.int .i64 (1)))⟩,⟨some 7,none,.mv (.tmp 13)⟩])))
abbrev c94:CC:=(.seq (.reg [⟨some 4,none,.mv (.const (.int .u32 (0)))⟩,⟨some 5,none,.mv (.const (.slice none 0 0))⟩]) (.seq (.reg [⟨some 6,none,.mv (.const (.int .u32 (0)))⟩]) (.seq (.seq (.reg [⟨some 7,none,.mv (.const (.int .i64 (31)))⟩]) (.block 0 (.loop c94_b1))) c94_k1)))
theorem cc94:ccode Try.prog [] (Try.f94.body.getD .skip) = some c94:=by kernel_rfl
theorem body94:Try.f94.body = some (Try.f94.body.getD .skip):=rfl
theorem digit_C (A0:Nat) (b:Row) (hb:(osl b).length <= 100000000) (hl:(digits A0).length <= 200000000) (hA:A0 < b.val * 2 ^ 32) :
  PureC Try.prog 94 [aN (rowN A0),aN b] (.ret (.tup [aU32 ((A0 / b.val:Nat):Int),aN (rowN (A0 % b.val))])):=by
 refine pureC_of (rs:=[(RV.tmp 4),(RV.tmp 5)]) Try.func94 (fun a w=>Try.call94 a w) body94 cc94 (by kernel_rfl) ?_
 rw [Try.ntmps94]
 simp only [frs,nA,nS]
 have hlb:=digits_len_row b
 repeat (first | (with_reducible first | refine Way.imp ?_ | refine blk_o rfl ?_) | ((with_reducible refine WayR.imp (fun K hK=>?_));simp (disch:=first | omega | (simp only [dls];omega)) only [std,reduceIte,reduceCtorEq,iT,nA,nS,nM,iA,iS,iM,iN,fU];subst hK))
 refine awp_loop (fun (zz:Nat × Nat × Nat)=>⟨(aN (rowN zz.2.1) :: aN b :: .junk :: .junk :: aU32 0 :: .one (.c (.val (.slice none 0 0))) :: aU32 zz.2.2 :: aI ((zz.1:Int) - 1) :: .junk :: .junk :: .junk :: .junk :: .junk :: .junk :: .junk :: .junk :: .junk :: .junk :: .junk :: .junk :: .junk :: .junk :: .junk :: .junk :: .junk :: .junk :: .junk :: .junk :: .junk :: .junk :: []),[]⟩) (fun (zz:Nat × Nat × Nat)=>DigI A0 b.val zz.2.1 zz.2.2 zz.1 /\ zz.2.1 <= A0 /\ zz.1 <= 32) (fun (zz:Nat × Nat × Nat)=>zz.1) (32,A0,0) ?hI1 (Fgt.head (Nat.le_refl _) [true,true,false,false,true,true,true,true] ?hT1 ?hH1) ?hB1
 case hT1=>first | (simp (disch:=omega) only [hds,liveT,cleanAV,cleanCell,clean1,cleanBlk,reduceIte,iS,iA,iN];done) | rfl
 case hH1=>first | (simp (disch:=omega) only [hds,liveT,cleanAV,cleanCell,clean1,cleanBlk,reduceIte,iS,iA,iN];done) | rfl
 ·dsimp only;exact ⟨DigI.start hA,Nat.le_refl _,Nat.le_refl _⟩
 rintro ⟨k,A,q⟩ ⟨hI,hle,hk⟩
 dsimp only at hI hle hk
 cases k with
 | zero =>
  obtain ⟨h1,h2⟩:=hI.done
  repeat (first | (with_reducible first | refine Way.imp ?_ | refine blk_o rfl ?_) | ((with_reducible refine WayR.imp (fun K hK=>?_));simp (disch:=first | omega | (simp only [dls];omega)) only [std,reduceIte,reduceCtorEq,iT,nA,nS,nM,iA,iS,iM,iN,fU];subst hK))
  refine ⟨_,rfl,?_⟩
  rw [<- h1,<- h2]
  exact rfl
 | succ k =>
  have hk1:((k + 1:Nat):Int) - 1 = (k:Int):=by omega
  have hdl:=digits_len_mono hle
  have hsl:=digits_len_shl b.val k (by omega)
  by_cases hge:b.val * 2 ^ k <= A
  ·obtain ⟨hI2,hor⟩:=hI.yes hge
   have hq:=hI2.qlt
   have hp:0 < 2 ^ k:=Nat.pow_pos (by decide)
   have hs:shlI .u32 1 k = ((2 ^ k:Nat):Int):=by
    have:=shlI_u32 (n:=k) 1 (by omega) rfl
    rw [Nat.one_mul,Nat.mod_eq_of_lt (by omega)] at this
    exact this
   have ho:=orI_u32 (x:=q) (y:=2 ^ k) (by omega) (by omega)
   have hsub:=sub_ge (rowN A) (rowN (b.val * 2 ^ k)) (by rw [osl_rowN];omega) (by rw [osl_rowN];omega) (by rw [rowN_val,rowN_val];exact hge)
   rw [rowN_val,rowN_val] at hsub
   repeat (first | (with_reducible first | refine Way.imp ?_ | refine blk_o rfl ?_) | ((with_reducible refine WayR.imp (fun K hK=>?_));simp (disch:=first | omega | (simp only [dls];omega)) only [std,reduceIte,reduceCtorEq,iT,nA,nS,nM,iA,iS,iM,iN,fU,hk1,hs,ho];subst hK) | refine zcA (shift_C b k (by omega) (by omega)) rfl rfl rfl ?_ | refine zcA (hsub) rfl rfl rfl ?_)
   refine ⟨(k,A - b.val * 2 ^ k,q ||| 2 ^ k),?hI2,?hM2,Fgt.head (Nat.le_refl _) [true,true,false,false,true,true,true,true] ?hT2 ?hH2⟩
   case hT2=>first | (simp (disch:=omega) only [hds,liveT,cleanAV,cleanCell,clean1,cleanBlk,reduceIte,iS,iA,iN];done) | rfl
   case hH2=>first | (simp (disch:=omega) only [hds,liveT,cleanAV,cleanCell,clean1,cleanBlk,reduceIte,iS,iA,iN];done) | rfl
   ·dsimp only;exact ⟨hI2,by omega,by omega⟩
   ·dsimp only;omega
  ·have hI2:=hI.no (by omega)
   have hsub:=sub_lt (rowN A) (rowN (b.val * 2 ^ k)) (by rw [osl_rowN];omega) (by rw [osl_rowN];omega) (by rw [rowN_val,rowN_val];omega)
   repeat (first | (with_reducible first | refine Way.imp ?_ | refine blk_o rfl ?_) | ((with_reducible refine WayR.imp (fun K hK=>?_));simp (disch:=first | omega | (simp only [dls];omega)) only [std,reduceIte,reduceCtorEq,iT,nA,nS,nM,iA,iS,iM,iN,fU,hk1];subst hK) | refine zcA (shift_C b k (by omega) (by omega)) rfl rfl rfl ?_ | refine zcA (hsub) rfl rfl rfl ?_)
   refine ⟨(k,A,q),?hI3,?hM3,Fgt.head (Nat.le_refl _) [true,true,false,false,true,true,true,true] ?hT3 ?hH3⟩
   case hT3=>first | (simp (disch:=omega) only [hds,liveT,cleanAV,cleanCell,clean1,cleanBlk,reduceIte,iS,iA,iN];done) | rfl
   case hH3=>first | (simp (disch:=omega) only [hds,liveT,cleanAV,cleanCell,clean1,cleanBlk,reduceIte,iS,iA,iN];done) | rfl
   ·dsimp only;exact ⟨hI2,by omega,by omega⟩
   ·dsimp only;omega
def lenTab:List UInt8:=[0,1,2,2,3,3,3,3,4,4,4,4,4,4,4,4,5,5,5,5,5,5,5,5,5,5,5,5,5,5,5,5,6,6,6,6,6,6,6,6,6,6,6,6,6,6,6,6,6,6,6,6,6,6,6,6,6,6,6,6,6,6,6,6,7,7,7,7,7,7,7,7,7,7,7,7,7,7,7,7,7,7,7,7,7,7,7,7,7,7,7,7,7,7,7,7,7,7,7,7,7,7,7,7,7,7,7,7,7,7,7,7,7,7,7,7,7,7,7,7,7,7,7,7,7,7,7,7,8,8,8,8,8,8,8,8,8,8,8,8,8,8,8,8,8,8,8,8,8,8,8,8,8,8,8,8,8,8,8,8,8,8,8,8,8,8,8,8,8,8,8,8,8,8,8,8,8,8,8,8,8,8,8,8,8,8,8,8,8,8,8,8,8,8,8,8,8,8,8,8,8,8,8,8,8,8,8,8,8,8,8,8,8,8,8,8,8,8,8,8,8,8,8,8,8,8,8,8,8,8,8,8,8,8,8,8,8,8,8,8,8,8,8,8,8,8,8,8,8,8,8,8,8,8,8,8]
def lenStr:Value:=.string ⟨#[0,1,2,2,3,3,3,3,4,4,4,4,4,4,4,4,5,5,5,5,5,5,5,5,5,5,5,5,5,5,5,5,6,6,6,6,6,6,6,6,6,6,6,6,6,6,6,6,6,6,6,6,6,6,6,6,6,6,6,6,6,6,6,6,7,7,7,7,7,7,7,7,7,7,7,7,7,7,7,7,7,7,7,7,7,7,7,7,7,7,7,7,7,7,7,7,7,7,7,7,7,7,7,7,7,7,7,7,7,7,7,7,7,7,7,7,7,7,7,7,7,7,7,7,7,7,7,7,8,8,8,8,8,8,8,8,8,8,8,8,8,8,8,8,8,8,8,8,8,8,8,8,8,8,8,8,8,8,8,8,8,8,8,8,8,8,8,8,8,8,8,8,8,8,8,8,8,8,8,8,8,8,8,8,8,8,8,8,8,8,8,8,8,8,8,8,8,8,8,8,8,8,8,8,8,8,8,8,8,8,8,8,8,8,8,8,8,8,8,8,8,8,8,8,8,8,8,8,8,8,8,8,8,8,8,8,8,8,8,8,8,8,8,8,8,8,8,8,8,8,8,8,8,8,8,8]⟩
theorem constAV_lenStr:constAV lenStr = .one (.c (.str lenTab)):=rfl
theorem lenTab_all:((List.range 256).all fun j=>j == 0 || (match lenTab[j]? with | some b=>1 <= b.toNat && b.toNat <= 8 | none=>false)) = true:=by kernel_rfl
theorem lenTab_get {j:Nat} (h1:1 <= j) (h2:j < 256):∃ b:UInt8,lenTab[j]? = some b /\ 1 <= b.toNat /\ b.toNat <= 8:=by
 have:=List.all_eq_true.1 lenTab_all j (List.mem_range.2 h2)
 cases hq:lenTab[j]? with
 | none=>rw [hq] at this;simp at this;omega
 | some b=>rw [hq] at this;simp at this;exact ⟨b,rfl,by omega,by omega⟩
abbrev c97:CC:=(.seq (.reg [⟨some 2,none,.mv (.const (.int .i64 (0)))⟩]) (.seq (.seq (.reg [⟨some 3,none,.mv (.tmp 0)⟩,⟨some 4,none,.bin .geq (.tmp 3) (.const (.int .u32 (65536)))⟩]) (.cond (.tmp 4) (.seq (.reg [⟨some 5,none,.mv (.tmp 0)⟩,⟨some 6,none,.bin .shr (.tmp 5) (.const (.int .u64 (16)))⟩,⟨some 0,none,.mv (.tmp 6)⟩]) (.reg [⟨some 2,none,.mv (.const (.int .i64 (16)))⟩])) .skip)) (.seq (.seq (.reg [⟨some 7,none,.mv (.tmp 0)⟩,⟨some 8,none,.bin .geq (.tmp 7) (.const (.int .u32 (256)))⟩]) (.cond (.tmp 8) (.seq (.reg [⟨some 9,none,.mv (.tmp 0)⟩,⟨some 10,none,.bin .shr (.tmp 9) (.const (.int .u64 (8)))⟩,⟨some 0,none,.mv (.tmp 10)⟩]) (.reg [⟨some 11,none,.mv (.tmp 2)⟩,⟨some 12,none,.bin .add (.tmp 11) (.const (.int .i64 (8)))⟩,⟨some 2,none,.mv (.tmp 12)⟩])) .skip)) (.seq (.reg [⟨some 13,none,.mv (.tmp 2)⟩,⟨some 14,none,.mv (.tmp 0)⟩,⟨some 15,none,.conv .u8 (.tmp 14)⟩,⟨some 16,none,.sidx (.const lenStr) (.tmp 15)⟩,⟨some 17,none,.conv .i64 (.tmp 16)⟩,⟨some 18,none,.bin .add (.tmp 13) (.tmp 17)⟩,⟨some 2,none,.mv (.tmp 18)⟩]) .ret))))
theorem cc97:ccode Try.prog [] (Try.f97.body.getD .skip) = some c97:=by kernel_rfl
theorem body97:Try.f97.body = some (Try.f97.body.getD .skip):=rfl
theorem len32_C (x:Nat) (h1:1 <= x) (h2:x < 4294967296):∃ m:Nat,1 <= m /\ m <= 40 /\ PureC Try.prog 97 [aU32 (x:Int)] (.ret (aI (m:Int))):=by
 have hs16:shrI .u32 (x:Int) 16 = ((x / 65536:Nat):Int):=by unfold shrI;rw [Int.fdiv_eq_ediv_of_nonneg _ (Int.pow_nonneg (by decide))];simp [IntKind.bits]
 have hs8:∀ y:Nat,shrI .u32 (y:Int) 8 = ((y / 256:Nat):Int):=fun y=>by unfold shrI;rw [Int.fdiv_eq_ediv_of_nonneg _ (Int.pow_nonneg (by decide))];simp [IntKind.bits]
 by_cases hA:65536 <= x
 ·by_cases hB:256 <= x / 65536
  ·obtain ⟨b,hb,hb1,hb2⟩:=lenTab_get (j:=x / 65536 / 256) (by omega) (by omega)
   refine ⟨24 + b.toNat,by omega,by omega,?_⟩
   refine pureC_of (rs:=[(RV.tmp 2)]) Try.func97 (fun a w=>Try.call97 a w) body97 cc97 (by kernel_rfl) ?_
   rw [Try.ntmps97]
   simp only [frs,nA,nS]
   repeat (first | (with_reducible first | refine Way.imp ?_ | refine blk_o rfl ?_) | ((with_reducible refine WayR.imp (fun K hK=>?_));simp (disch:=first | omega | (simp only [dls];omega)) only [std,reduceIte,reduceCtorEq,iT,nA,nS,nM,iA,iS,iM,iN,fU,hs16,hs8,constAV_lenStr,hb];subst hK))
   exact ⟨_,rfl,by rw [Int.natCast_add];exact Ends.ret_c⟩
  ·obtain ⟨b,hb,hb1,hb2⟩:=lenTab_get (j:=x / 65536) (by omega) (by omega)
   refine ⟨16 + b.toNat,by omega,by omega,?_⟩
   refine pureC_of (rs:=[(RV.tmp 2)]) Try.func97 (fun a w=>Try.call97 a w) body97 cc97 (by kernel_rfl) ?_
   rw [Try.ntmps97]
   simp only [frs,nA,nS]
   repeat (first | (with_reducible first | refine Way.imp ?_ | refine blk_o rfl ?_) | ((with_reducible refine WayR.imp (fun K hK=>?_));simp (disch:=first | omega | (simp only [dls];omega)) only [std,reduceIte,reduceCtorEq,iT,nA,nS,nM,iA,iS,iM,iN,fU,hs16,hs8,constAV_lenStr,hb];subst hK))
   exact ⟨_,rfl,by rw [Int.natCast_add];exact Ends.ret_c⟩
 ·by_cases hB:256 <= x
  ·obtain ⟨b,hb,hb1,hb2⟩:=lenTab_get (j:=x / 256) (by omega) (by omega)
   refine ⟨8 + b.toNat,by omega,by omega,?_⟩
   refine pureC_of (rs:=[(RV.tmp 2)]) Try.func97 (fun a w=>Try.call97 a w) body97 cc97 (by kernel_rfl) ?_
   rw [Try.ntmps97]
   simp only [frs,nA,nS]
   repeat (first | (with_reducible first | refine Way.imp ?_ | refine blk_o rfl ?_) | ((with_reducible refine WayR.imp (fun K hK=>?_));simp (disch:=first | omega | (simp only [dls];omega)) only [std,reduceIte,reduceCtorEq,iT,nA,nS,nM,iA,iS,iM,iN,fU,hs16,hs8,constAV_lenStr,hb];subst hK))
   exact ⟨_,rfl,by rw [Int.natCast_add];exact Ends.ret_c⟩
  ·obtain ⟨b,hb,hb1,hb2⟩:=lenTab_get (j:=x) (by omega) (by omega)
   refine ⟨0 + b.toNat,by omega,by omega,?_⟩
   refine pureC_of (rs:=[(RV.tmp 2)]) Try.func97 (fun a w=>Try.call97 a w) body97 cc97 (by kernel_rfl) ?_
   rw [Try.ntmps97]
   simp only [frs,nA,nS]
   repeat (first | (with_reducible first | refine Way.imp ?_ | refine blk_o rfl ?_) | ((with_reducible refine WayR.imp (fun K hK=>?_));simp (disch:=first | omega | (simp only [dls];omega)) only [std,reduceIte,reduceCtorEq,iT,nA,nS,nM,iA,iS,iM,iN,fU,hs16,hs8,constAV_lenStr,hb];subst hK))
   exact ⟨_,rfl,by rw [Int.natCast_add];exact Ends.ret_c⟩
abbrev c83:CC:=(.seq (.reg [⟨some 2,none,.mv (.const (.int .i64 (0)))⟩]) (.seq (.reg [⟨some 3,none,.mv (.tmp 0)⟩,⟨some 4,none,.callf (.func 80) [(.tmp 3)]⟩,⟨some 0,none,.mv (.tmp 4)⟩]) (.seq (.seq (.reg [⟨some 5,none,.mv (.tmp 0)⟩,⟨some 6,none,.len false (.tmp 5)⟩,⟨some 7,none,.bin .eql (.tmp 6) (.const (.int .i64 (0)))⟩]) (.cond (.tmp 7) (.seq (.reg [⟨some 2,none,.mv (.const (.int .i64 (0)))⟩]) .ret) .skip)) (.seq (.reg [⟨some 8,none,.mv (.tmp 0)⟩,⟨some 9,none,.len false (.tmp 8)⟩,⟨some 10,none,.bin .sub (.tmp 9) (.const (.int .i64 (1)))⟩,⟨some 11,none,.bin .mul (.const (.int .i64 (32))) (.tmp 10)⟩,⟨some 12,none,.mv (.tmp 0)⟩,⟨some 13,none,.mv (.tmp 0)⟩,⟨some 14,none,.len false (.tmp 13)⟩,⟨some 15,none,.bin .sub (.tmp 14) (.const (.int .i64 (1)))⟩,⟨some 16,none,.iaddr 1 none (.tmp 12) (.tmp 15)⟩,⟨some 17,none,.load 1 false (.tmp 16)⟩,⟨some 18,none,.callf (.func 97) [(.tmp 17)]⟩,⟨some 19,none,.bin .add (.tmp 11) (.tmp 18)⟩,⟨some 2,none,.mv (.tmp 19)⟩]) .ret))))
theorem cc83:ccode Try.prog [] (Try.f83.body.getD .skip) = some c83:=by kernel_rfl
theorem body83:Try.f83.body = some (Try.f83.body.getD .skip):=rfl
theorem bits_C (a:Row) (ha:(osl a).length <= 1000000000):∃ m:Nat,(m = 0 ↔ a.val = 0) /\ PureC Try.prog 83 [aN a] (.ret (aI (m:Int))):=by
 have hta:=trim_C a (by omega)
 change PureC _ _ _ (.ret (aN (trimR a))) at hta
 have hsa:=trimR_ds a
 have hla:=digits_len_row a
 rw [<- hsa] at hla
 generalize trimR a = s at *
 by_cases h0:(osl s).length = 0
 ·refine ⟨0,⟨fun _=>?_,fun _=>rfl⟩,?_⟩
  ·rw [hsa] at h0
   exact digits_nil_iff.1 (List.length_eq_zero_iff.1 h0)
  ·refine pureC_of (rs:=[(RV.tmp 2)]) Try.func83 (fun a w=>Try.call83 a w) body83 cc83 (by kernel_rfl) ?_
   rw [Try.ntmps83]
   simp only [frs,nA,nS]
   repeat (first | (with_reducible first | refine Way.imp ?_ | refine blk_o rfl ?_) | ((with_reducible refine WayR.imp (fun K hK=>?_));simp (disch:=first | omega | (simp only [dls];omega)) only [std,reduceIte,reduceCtorEq,iT,nA,nS,nM,iA,iS,iM,iN,fU];subst hK) | refine zcA (hta) rfl rfl rfl ?_)
   exact ⟨_,rfl,Ends.ret_c⟩
 ·have hlt:(osl s).length - 1 < (osl s).length:=by omega
  have htop:1 <= dgt (osl s) ((osl s).length - 1):=by
   rw [dgt_eq _ _ hlt]
   have hne:osl s ≠ []:=fun e=>h0 (by rw [e];rfl)
   have h1:=digits_trimmed a.val (by rw [<- hsa];exact hne)
   have h2:(osl s).getLast hne ≠ 0:=by simpa only [hsa] using h1
   rw [List.getLast_eq_getElem] at h2
   have:(osl s)[(osl s).length - 1].toNat ≠ 0:=fun e=>h2 (UInt32.toNat_inj.1 (by rw [e];rfl))
   omega
  obtain ⟨m,hm1,hm2,hm⟩:=len32_C _ htop (dgt_lt _ _)
  refine ⟨32 * ((osl s).length - 1) + m,⟨fun h=>by omega,fun h=>?_⟩,?_⟩
  ·exfalso;apply h0;rw [hsa,h,digits_zero];rfl
  ·have hd:=dgt_eq (osl s) ((osl s).length - 1) hlt
   have hi:(((osl s).length:Int) - 1).toNat = (osl s).length - 1:=by omega
   have e:32 * (((osl s).length:Int) - 1) + (m:Int) = ((32 * ((osl s).length - 1) + m:Nat):Int):=by omega
   refine pureC_of (rs:=[(RV.tmp 2)]) Try.func83 (fun a w=>Try.call83 a w) body83 cc83 (by kernel_rfl) ?_
   rw [Try.ntmps83]
   simp only [frs,nA,nS]
   repeat (first | (with_reducible first | refine Way.imp ?_ | refine blk_o rfl ?_) | ((with_reducible refine WayR.imp (fun K hK=>?_));simp (disch:=first | omega | (simp only [dls];omega)) only [std,reduceIte,reduceCtorEq,iT,nA,nS,nM,iA,iS,iM,iN,fU,hi,<- hd,e];subst hK) | refine zcA (hta) rfl rfl rfl ?_ | refine zcA (hm) rfl rfl rfl ?_)
   exact ⟨_,rfl,Ends.ret_c⟩
end Go.Proofs.Ytncgbjhojbnecaa
namespace Go.Proofs.Ytncgbjhojbnecaa
open Go Go.Am Go.Proofs Go.Off
open Nat renaming reduceAdd -> nA,reduceSub -> nS,reduceMul -> nM,reduceBEq -> nB
open Int renaming reduceToNat -> iT,reduceAdd -> iA,reduceSub -> iS,reduceMul -> iM,reduceNeg -> iN
theorem u32_of {n:Nat} (h:n < 4294967296):(n:Int) = ((u32 (n:Int)).toNat:Int):=by rw [u32_nat,Nat.mod_eq_of_lt h]
abbrev c78_k1:CC:=(.seq (.reg [⟨some 66,none,.load 1 false (.tmp 7)⟩,⟨some 67,none,.callf (.func 80) [(.tmp 66)]⟩,⟨some 68,none,.load 1 false (.tmp 8)⟩,⟨some 4,none,.mv (.tmp 67)⟩,⟨some 5,none,.mv (.tmp 68)⟩,⟨some 6,none,.mv (.const (.int .i64 (0)))⟩]) .ret)
abbrev c78_b1:CC:=(.block 1 (.seq (.reg [⟨some 27,none,.mv (.tmp 10)⟩,⟨some 28,none,.mkrow 118 1 [(.tmp 27)]⟩,⟨some 29,none,.load 1 false (.tmp 8)⟩,⟨some 30,none,.append 118 1 4 (.tmp 28) (.tmp 29)⟩,⟨some 31,none,.callf (.func 80) [(.tmp 30)]⟩,⟨none,none,.store 1 (.tmp 8) (.tmp 31)⟩]) (.seq (.seq (.reg [⟨some 32,none,.load 1 false (.tmp 3)⟩,⟨some 33,none,.len false (.tmp 32)⟩,⟨some 34,none,.bin .eql (.tmp 33) (.const (.int .i64 (1)))⟩]) (.cond (.tmp 34) (.seq (.reg [⟨some 36,none,.load 1 false (.tmp 8)⟩,⟨some 37,none,.callf (.func 93) [(.tmp 36)]⟩,⟨some 35,none,.mv (.tmp 37)⟩,⟨some 38,none,.ext (.tmp 35) 0⟩,⟨some 39,none,.ext (.tmp 35) 1⟩,⟨some 11,none,.mv (.tmp 38)⟩,⟨some 12,none,.mv (.tmp 39)⟩]) (.seq (.reg [⟨some 40,none,.load 1 false (.tmp 7)⟩,⟨some 41,none,.mv (.tmp 9)⟩,⟨some 42,none,.mv (.tmp 11)⟩,⟨some 43,none,.load 1 false (.tmp 3)⟩,⟨some 44,none,.iaddr 1 none (.tmp 43) (.const (.int .i64 (0)))⟩,⟨some 45,none,.load 1 false (.tmp 44)⟩,⟨some 46,none,.conv .u64 (.tmp 45)⟩,⟨some 47,none,.bin .quo (.tmp 42) (.tmp 46)⟩,⟨some 48,none,.conv .u32 (.tmp 47)⟩,⟨some 49,none,.iaddr 1 none (.tmp 40) (.tmp 41)⟩,⟨none,none,.store 1 (.tmp 49) (.tmp 48)⟩]) (.seq (.reg [⟨some 50,none,.mv (.tmp 11)⟩,⟨some 51,none,.load 1 false (.tmp 3)⟩,⟨some 52,none,.iaddr 1 none (.tmp 51) (.const (.int .i64 (0)))⟩,⟨some 53,none,.load 1 false (.tmp 52)⟩,⟨some 54,none,.conv .u64 (.tmp 53)⟩,⟨some 55,none,.bin .rem (.tmp 50) (.tmp 54)⟩,⟨some 56,none,.callf (.func 49) [(.tmp 55)]⟩,⟨none,none,.store 1 (.tmp 8) (.tmp 56)⟩]) (.exit 1)))) .skip)) (.reg [⟨some 58,none,.load 1 false (.tmp 7)⟩,⟨some 59,none,.mv (.tmp 9)⟩,⟨some 60,none,.load 1 false (.tmp 8)⟩,⟨some 61,none,.load 1 false (.tmp 3)⟩,⟨some 62,none,.callf (.func 94) [(.tmp 60),(.tmp 61)]⟩,⟨some 57,none,.mv (.tmp 62)⟩,⟨some 63,none,.ext (.tmp 57) 0⟩,⟨some 64,none,.ext (.tmp 57) 1⟩,⟨some 65,none,.iaddr 1 none (.tmp 58) (.tmp 59)⟩,⟨none,none,.store 1 (.tmp 65) (.tmp 63)⟩,⟨none,none,.store 1 (.tmp 8) (.tmp 64)⟩]))))
abbrev c78:CC:=(.seq (.reg [⟨some 3,none,.box 37 (.tmp 1)⟩,⟨some 4,none,.mv (.const (.slice none 0 0))⟩,⟨some 5,none,.mv (.const (.slice none 0 0))⟩,⟨some 6,none,.mv (.const (.int .i64 (0)))⟩]) (.seq (.reg [⟨some 13,none,.mv (.tmp 0)⟩,⟨some 14,none,.callf (.func 80) [(.tmp 13)]⟩,⟨some 15,none,.load 1 false (.tmp 3)⟩,⟨some 16,none,.callf (.func 80) [(.tmp 15)]⟩,⟨some 0,none,.mv (.tmp 14)⟩,⟨none,none,.store 1 (.tmp 3) (.tmp 16)⟩]) (.seq (.seq (.reg [⟨some 17,none,.load 1 false (.tmp 3)⟩,⟨some 18,none,.len false (.tmp 17)⟩,⟨some 19,none,.bin .eql (.tmp 18) (.const (.int .i64 (0)))⟩]) (.cond (.tmp 19) (.seq (.reg [⟨some 4,none,.mv (.const (.slice none 0 0))⟩,⟨some 5,none,.mv (.const (.slice none 0 0))⟩,⟨some 6,none,.mv (.const (.int .i64 (5)))⟩]) .ret) .skip)) (.seq (.reg [⟨some 20,none,.mv (.tmp 0)⟩,⟨some 21,none,.len false (.tmp 20)⟩,⟨some 22,none,.make 118 1 4 [(.int .u32 (0))] (.tmp 21) (.tmp 21)⟩,⟨some 7,none,.new 37 [(.slice none 0 0)]⟩,⟨none,none,.store 1 (.tmp 7) (.tmp 22)⟩]) (.seq (.reg [⟨some 8,none,.new 37 [(.slice none 0 0)]⟩]) (.seq (.seq (.reg [⟨some 23,none,.mv (.tmp 0)⟩,⟨some 24,none,.callf (.func 92) [(.tmp 23)]⟩]) (.block 0 (.rf (.tmp 24) [25,26] [(9,25),(10,26)] c78_b1))) c78_k1))))))
theorem cc78:ccode Try.prog [] (Try.f78.body.getD .skip) = some c78:=by kernel_rfl
theorem body78:Try.f78.body = some (Try.f78.body.getD .skip):=rfl
theorem divmod_zero (a b:Row) (ha:(osl a).length <= 1000000000) (hb:(osl b).length <= 1000000000) (h0:b.val = 0):PureC Try.prog 78 [aN a,aN b] (.ret (.tup [aN none,aN none,aI 5])):=by
 refine pureC_of (rs:=[(RV.tmp 4),(RV.tmp 5),(RV.tmp 6)]) Try.func78 (fun a w=>Try.call78 a w) body78 cc78 (by kernel_rfl) ?_
 rw [Try.ntmps78]
 simp only [frs,nA,nS]
 have hta:=trim_C a (by omega)
 have htb:=trim_C b (by omega)
 change PureC _ _ _ (.ret (aN (trimR a))) at hta
 change PureC _ _ _ (.ret (aN (trimR b))) at htb
 have hsb:=trimR_ds b
 rw [h0,digits_zero] at hsb
 have hl:(osl (trimR b)).length = 0:=by rw [hsb];rfl
 generalize trimR a = s at *
 generalize trimR b = t at *
 repeat (first | (with_reducible first | refine Way.imp ?_ | refine blk_o rfl ?_) | ((with_reducible refine WayR.imp (fun K hK=>?_));simp (disch:=first | omega | (simp only [dls];omega)) only [std,reduceIte,reduceCtorEq,iT,nA,nS,nM,iA,iS,iM,iN,fU];subst hK) | refine zcA (hta) rfl rfl rfl ?_ | refine zcA (htb) rfl rfl rfl ?_)
 exact ⟨_,rfl,rfl⟩
def dmStep (s:List UInt32) (B:Nat) (p:List UInt32 × Row) (k:Fin s.length):List UInt32 × Row :=
 (p.1.set k.1 (u32 (((dgt s k.1 + 4294967296 * p.2.val) / B:Nat):Int)),rowN ((dgt s k.1 + 4294967296 * p.2.val) % B))
theorem dm_fold (s:List UInt32) (B:Nat) (hB:0 < B) (out:List UInt32) (hl:out.length = s.length) :
  let r:=(downs s.length s.length).foldl (dmStep s B) (out,none)
  val r.1 = val s / B /\ r.1.length = s.length /\ r.2 = if s.length = 0 then none else rowN (val s % B):=by
 have h:=foldl_downs s.length (dmStep s B) (fun k p=>p.1.length = s.length /\ val (p.1.drop k) = val (s.drop k) / B /\ p.2 = if k = s.length then none else rowN (val (s.drop k) % B)) (out,none)
  ⟨hl,by show val (out.drop s.length) = val (s.drop s.length) / B;rw [<- hl,List.drop_length,hl,List.drop_length];simp [val],by simp⟩ (fun k p hp=>by
   obtain ⟨h1,h2,h3⟩:=hp
   have hk:=k.2
   have hr:p.2.val = val (s.drop (k.1 + 1)) % B:=by
    rw [h3]
    split
    ·rename_i he
     rw [he,List.drop_length];simp [val,Row.val,osl]
    ·exact rowN_val _
   have e:=val_drop s k.1 hk
   rw [<- dgt_eq s k.1 hk] at e
   obtain ⟨e1,e2⟩:=div_step (val (s.drop (k.1 + 1))) B (dgt s k.1) hB
   obtain ⟨e3,_⟩:=div_word (H:=val (s.drop (k.1 + 1))) hB (dgt_lt s k.1)
   refine ⟨by simp [dmStep,h1],?_,?_⟩
   ·simp only [dmStep,hr]
    have e4:=val_drop (p.1.set k.1 (u32 (((dgt s k.1 + 4294967296 * (val (s.drop (k.1 + 1)) % B)) / B:Nat):Int))) k.1 (by rw [List.length_set];omega)
    rw [e4,List.getElem_set_self,u32_nat,List.drop_set_of_lt (by omega),h2,e]
    show _ = (dgt s k.1 + W * val (s.drop (k.1 + 1))) / B
    rw [e1,Nat.mod_eq_of_lt e3]
   ·simp only [dmStep,hr,if_neg (Nat.ne_of_lt hk)]
    rw [e]
    show _ = rowN ((dgt s k.1 + W * val (s.drop (k.1 + 1))) % B)
    rw [e2])
 obtain ⟨h1,h2,h3⟩:=h
 refine ⟨by simpa using h2,h1,?_⟩
 rw [h3]
 simp only [List.drop_zero]
 by_cases hz:s.length = 0
 ·simp [hz]
 ·rw [if_neg (fun e=>hz e.symm),if_neg hz]
theorem divmod_C (a b:Row) (ha:(osl a).length <= 100000000) (hb:(osl b).length <= 90000000) (h0:b.val ≠ 0) :
  PureC Try.prog 78 [aN a,aN b] (.ret (.tup [aN (rowN (a.val / b.val)),aN (if a.val = 0 then none else rowN (a.val % b.val)),aI 0])):=by
 refine pureC_of (rs:=[(RV.tmp 4),(RV.tmp 5),(RV.tmp 6)]) Try.func78 (fun a w=>Try.call78 a w) body78 cc78 (by kernel_rfl) ?_
 rw [Try.ntmps78]
 simp only [frs,nA,nS]
 have hta:=trim_C a (by omega)
 have htb:=trim_C b (by omega)
 change PureC _ _ _ (.ret (aN (trimR a))) at hta
 change PureC _ _ _ (.ret (aN (trimR b))) at htb
 have hsa:=trimR_ds a
 have hsb:=trimR_ds b
 have hla:=digits_len_row a
 have hlb:=digits_len_row b
 rw [<- hsa] at hla
 rw [<- hsb] at hlb
 have hva:val (osl (trimR a)) = a.val:=by rw [hsa,val_digits]
 have hvb:(trimR b).val = b.val:=by show val (osl (trimR b)) = _;rw [hsb,val_digits]
 have hdb:digits b.val = osl (trimR b):=hsb.symm
 have hlen:(osl (trimR b)).length ≠ 0:=fun e=>h0 (by rw [<- hvb];have e2:=List.length_eq_zero_iff.1 e;show val (osl (trimR b)) = 0;rw [e2];rfl)
 have hz:(osl (trimR a)).length = 0 ↔ a.val = 0:=by rw [hsa,List.length_eq_zero_iff,digits_nil_iff]
 generalize trimR a = s at *
 generalize trimR b = t at *
 repeat (first | (with_reducible first | refine Way.imp ?_ | refine blk_o rfl ?_) | ((with_reducible refine WayR.imp (fun K hK=>?_));simp (disch:=first | omega | (simp only [dls];omega)) only [std,reduceIte,reduceCtorEq,iT,nA,nS,nM,iA,iS,iM,iN,fU,repU];subst hK) | refine zcA (hta) rfl rfl rfl ?_ | refine zcA (htb) rfl rfl rfl ?_ | refine zcA (backward_C _) rfl rfl rfl ?_)
 refine awp_fold (back_iter s (by omega)) rfl (by simp [closedCell]) (fun (p:List UInt32 × Row)=>[⟨0,37,1,[[.c (nr t)]],true,true⟩,⟨0,118,1,encB fU p.1,true,true⟩,⟨0,37,1,[[.own 1 0]],true,true⟩,⟨0,37,1,[[.c (nr p.2)]],true,true⟩]) (dmStep (osl s) b.val)
  (fun _ p=>p.1.length = (osl s).length /\ p.2.val < b.val /\ (osl p.2).length <= (osl t).length) (List.replicate (osl s).length 0,none) rfl ⟨List.length_replicate,by show 0 < _;omega,by simp [osl]⟩ ?_ ?_
 ·rintro i ⟨out,rest⟩ k _ ⟨hl,hr,hrl⟩
  dsimp only at hl hr hrl
  have hk:=k.2
  have hd:=dgt_lt (osl s) k.1
  have hdx:=dgt_eq (osl s) k.1 hk
  obtain ⟨x,hx⟩:∃ x,x = (osl s)[k.1]'k.2:=⟨_,rfl⟩
  rw [show backAV (osl s) k = [aI (k.1:Int),aU32 (x.toNat:Nat)] from by rw [hx]]
  rw [<- hx] at hdx
  have hst:dmStep (osl s) b.val (out,rest) k = (out.set k.1 (u32 (((x.toNat + 4294967296 * rest.val) / b.val:Nat):Int)),rowN ((x.toNat + 4294967296 * rest.val) % b.val)):=by unfold dmStep;rw [hdx]
  rw [hst]
  dsimp only
  have ht:=trim_C (some (x :: osl rest)) (by simp only [osl_some,List.length_cons];omega)
  change PureC _ _ _ (.ret (aN (rowN (x.toNat + 4294967296 * rest.val)))) at ht
  have hX:=x.toNat_lt
  have hrb:rest.val + 1 <= b.val:=hr
  have hB:x.toNat + 4294967296 * rest.val < b.val * 4294967296:=by omega
  have hqW:(x.toNat + 4294967296 * rest.val) / b.val < 4294967296:=Nat.div_lt_of_lt_mul hB
  have hmB:(x.toNat + 4294967296 * rest.val) % b.val < b.val:=Nat.mod_lt _ (by omega)
  generalize x.toNat + 4294967296 * rest.val = X at *
  have hI:(out.set k.1 (u32 ((X / b.val:Nat):Int))).length = (osl s).length /\ (rowN (X % b.val)).val < b.val /\ (osl (rowN (X % b.val))).length <= (osl t).length :=
   ⟨by rw [List.length_set];exact hl,by rw [rowN_val];exact hmB,by rw [osl_rowN,<- hdb];exact digits_len_mono (Nat.le_of_lt hmB)⟩
  have mk1:[[Cell.c (CV.val (.int .u32 (x.toNat:Int)))]] = encB fU [x]:=rfl
  have hdl:(digits X).length <= (osl t).length + 1:=by
   have h1:=digits_len_shl b.val 32 (by omega)
   rw [hdb] at h1
   exact Nat.le_trans (digits_len_mono (b:=b.val * 2 ^ 32) (by omega)) h1
  simp only [mvT,setps,rnd,nA]
  by_cases hone:(osl t).length = 1
  ·obtain ⟨d,hd1⟩:=List.length_eq_one_iff.1 hone
   have hbd:b.val = d.toNat:=by rw [<- hvb];show val (osl t) = _;rw [hd1];simp [val]
   have hdlt:=d.toNat_lt
   have hd0:(osl t)[0].toNat = b.val:=by rw [hbd];simp only [hd1,List.getElem_cons_zero]
   have hsm:=small_C (rowN X) (by rw [osl_rowN];omega) (by rw [rowN_val];omega)
   rw [rowN_val] at hsm
   have hof:=of_C (X % b.val) (by omega)
   have hq:(X:Int).tdiv (b.val:Int) = ((X / b.val:Nat):Int):=by rw [tdiv_nn (by omega)];simp
   have hm:(X:Int).tmod (b.val:Int) = ((X % b.val:Nat):Int):=by rw [tmod_nn (by omega)];simp
   generalize X / b.val = Qt at *
   generalize X % b.val = Rm at *
   repeat (first | (with_reducible first | refine Way.imp ?_ | refine blk_o rfl ?_) | ((with_reducible refine WayR.imp (fun K hK=>?_));simp (disch:=first | omega | (simp only [dls];omega)) only [std,reduceIte,reduceCtorEq,iT,nA,nS,nM,iA,iS,iM,iN,fU,mk1,encB_append,hd0,hq,hm,conv_u32,setU];subst hK) | (apply call_ret (ht) rfl;(case hcl=>(simp only [evs,St.ev,constAV,evl];(repeat (first | exact closeAVs_nil | (apply closeAVs_cons;(first | (refine close_own3 rfl (by decide)) | (refine close_ownO rfl (by decide) ?_;assumption) | rfl))));done));(case hf=>rfl);(case hu=>(simp only [evs,St.ev,constAV,evl];(repeat (first | exact used_nil | (apply used_cons;(first | (apply used_own3;rfl) | rfl))));done));(case hh=>((simp only [fzl,nB,nA,Bool.false_eq_true,if_true,if_false,reduceIte]) <;> rfl))) | refine zcA (hsm) rfl rfl rfl ?_ | refine zcA (hof) rfl rfl rfl ?_)
   refine ⟨_,⟨rfl,?hI1⟩,_,Fgt.head (Nat.le_refl _) [] rfl ?hH1⟩
   case hH1=>first | (simp (disch:=omega) only [hds,liveT,cleanAV,cleanCell,clean1,cleanBlk,reduceIte,iS,iA,iN];done) | rfl
   exact hI
  ·have hdg:=digit_C X t (by omega) (by omega) (by rw [hvb];omega)
   rw [hvb,u32_of hqW] at hdg
   repeat (first | (with_reducible first | refine Way.imp ?_ | refine blk_o rfl ?_) | ((with_reducible refine WayR.imp (fun K hK=>?_));simp (disch:=first | omega | (simp only [dls];omega)) only [std,reduceIte,reduceCtorEq,iT,nA,nS,nM,iA,iS,iM,iN,fU,mk1,encB_append,setU];subst hK) | (apply call_ret (ht) rfl;(case hcl=>(simp only [evs,St.ev,constAV,evl];(repeat (first | exact closeAVs_nil | (apply closeAVs_cons;(first | (refine close_own3 rfl (by decide)) | (refine close_ownO rfl (by decide) ?_;assumption) | rfl))));done));(case hf=>rfl);(case hu=>(simp only [evs,St.ev,constAV,evl];(repeat (first | exact used_nil | (apply used_cons;(first | (apply used_own3;rfl) | rfl))));done));(case hh=>((simp only [fzl,nB,nA,Bool.false_eq_true,if_true,if_false,reduceIte]) <;> rfl))) | refine zcA (hdg) rfl rfl rfl ?_)
   refine ⟨_,⟨rfl,?hI2⟩,_,Fgt.head (Nat.le_refl _) [] rfl ?hH2⟩
   case hH2=>first | (simp (disch:=omega) only [hds,liveT,cleanAV,cleanCell,clean1,cleanBlk,reduceIte,iS,iA,iN];done) | rfl
   exact hI
 ·rintro ⟨h1,h2,h3⟩
  obtain ⟨e1,e2,e3⟩:=dm_fold (osl s) b.val (by omega) (List.replicate (osl s).length 0) List.length_replicate
  generalize (downs (osl s).length (osl s).length).foldl (dmStep (osl s) b.val) (List.replicate (osl s).length 0,none) = r at *
  obtain ⟨out,rest⟩:=r
  dsimp only at *
  have ht:=trim_C (some out) (by simp only [osl_some];omega)
  rw [Option.map_some] at ht
  repeat (first | (with_reducible first | refine Way.imp ?_ | refine blk_o rfl ?_) | ((with_reducible refine WayR.imp (fun K hK=>?_));simp (disch:=first | omega | (simp only [dls];omega)) only [std,reduceIte,reduceCtorEq,iT,nA,nS,nM,iA,iS,iM,iN,fU];subst hK) | (apply call_ret (ht) rfl;(case hcl=>(simp only [evs,St.ev,constAV,evl];(repeat (first | exact closeAVs_nil | (apply closeAVs_cons;(first | (refine close_own3 rfl (by decide)) | (refine close_ownO rfl (by decide) ?_;assumption) | rfl))));done));(case hf=>rfl);(case hu=>(simp only [evs,St.ev,constAV,evl];(repeat (first | exact used_nil | (apply used_cons;(first | (apply used_own3;rfl) | rfl))));done));(case hh=>((simp only [fzl,nB,nA,Bool.false_eq_true,if_true,if_false,reduceIte]) <;> rfl))))
  refine ⟨_,rfl,?_⟩
  rw [hva] at e1 e3
  rw [e1,e3]
  simp only [hz]
  exact rfl
end Go.Proofs.Ytncgbjhojbnecaa
namespace Go.Proofs.Ytncgbjhojbnecaa
open Go Go.Am Go.Proofs Go.Off
open Nat renaming reduceAdd -> nA,reduceSub -> nS,reduceMul -> nM,reduceBEq -> nB
open Int renaming reduceToNat -> iT,reduceAdd -> iA,reduceSub -> iS,reduceMul -> iM,reduceNeg -> iN
abbrev c77_k1:CC:=(.seq (.reg [⟨some 24,none,.mv (.tmp 0)⟩,⟨some 4,none,.mv (.tmp 24)⟩]) .ret)
abbrev c77_b1:CC:=(.seq (.seq (.reg [⟨some 12,none,.mv (.tmp 1)⟩,⟨some 13,none,.len false (.tmp 12)⟩,⟨some 14,none,.bin .gtr (.tmp 13) (.const (.int .i64 (0)))⟩]) (.cond (.tmp 14) .skip (.exit 0))) (.block 1 (.seq (.reg [⟨some 16,none,.mv (.tmp 0)⟩,⟨some 17,none,.mv (.tmp 1)⟩,⟨some 18,none,.callf (.func 78) [(.tmp 16),(.tmp 17)]⟩,⟨some 15,none,.mv (.tmp 18)⟩,⟨some 19,none,.ext (.tmp 15) 0⟩,⟨some 20,none,.ext (.tmp 15) 1⟩,⟨some 21,none,.ext (.tmp 15) 2⟩,⟨some 5,none,.mv (.tmp 19)⟩,⟨some 6,none,.mv (.tmp 20)⟩,⟨some 7,none,.mv (.tmp 21)⟩]) (.reg [⟨some 22,none,.mv (.tmp 1)⟩,⟨some 23,none,.mv (.tmp 6)⟩,⟨some 0,none,.mv (.tmp 22)⟩,⟨some 1,none,.mv (.tmp 23)⟩]))))
abbrev c77:CC:=(.seq (.reg [⟨some 4,none,.mv (.const (.slice none 0 0))⟩]) (.seq (.reg [⟨some 8,none,.mv (.tmp 0)⟩,⟨some 9,none,.callf (.func 80) [(.tmp 8)]⟩,⟨some 10,none,.mv (.tmp 1)⟩,⟨some 11,none,.callf (.func 80) [(.tmp 10)]⟩,⟨some 0,none,.mv (.tmp 9)⟩,⟨some 1,none,.mv (.tmp 11)⟩]) (.seq (.block 0 (.loop c77_b1)) c77_k1)))
theorem cc77:ccode Try.prog [] (Try.f77.body.getD .skip) = some c77:=by kernel_rfl
theorem body77:Try.f77.body = some (Try.f77.body.getD .skip):=rfl
theorem gcd_C (a b:Row) (ha:(osl a).length <= 80000000) (hb:(osl b).length <= 80000000) (h0:b.val ≠ 0):PureC Try.prog 77 [aN a,aN b] (.ret (aN (rowN (Nat.gcd a.val b.val)))):=by
 refine pureC_of (rs:=[(RV.tmp 4)]) Try.func77 (fun a w=>Try.call77 a w) body77 cc77 (by kernel_rfl) ?_
 rw [Try.ntmps77]
 simp only [frs,nA,nS]
 have hta:=trim_C a (by omega)
 have htb:=trim_C b (by omega)
 change PureC _ _ _ (.ret (aN (trimR a))) at hta
 change PureC _ _ _ (.ret (aN (trimR b))) at htb
 have hsa:=trimR_ds a
 have hsb:=trimR_ds b
 have hla:=digits_len_row a
 have hlb:=digits_len_row b
 rw [<- hsa] at hla
 rw [<- hsb] at hlb
 have hva:(trimR a).val = a.val:=by show val (osl (trimR a)) = _;rw [hsa,val_digits]
 have hvb:(trimR b).val = b.val:=by show val (osl (trimR b)) = _;rw [hsb,val_digits]
 have hrb:trimR b = rowN b.val:=by
  cases b with
  | none=>exact absurd rfl h0
  | some l=>rfl
 generalize trimR a = s at *
 repeat (first | (with_reducible first | refine Way.imp ?_ | refine blk_o rfl ?_) | ((with_reducible refine WayR.imp (fun K hK=>?_));simp (disch:=first | omega | (simp only [dls];omega)) only [std,reduceIte,reduceCtorEq,iT,nA,nS,nM,iA,iS,iM,iN,fU];subst hK) | refine zcA (hta) rfl rfl rfl ?_ | refine zcA (htb) rfl rfl rfl ?_)
 refine awp_loop (fun (zz:Row × Row)=>⟨(aN zz.1 :: aN zz.2 :: .junk :: .junk :: .one (.c (.val (.slice none 0 0))) :: .junk :: .junk :: .junk :: .junk :: .junk :: .junk :: .junk :: .junk :: .junk :: .junk :: .junk :: .junk :: .junk :: .junk :: .junk :: .junk :: .junk :: .junk :: .junk :: .junk :: []),[]⟩) (fun (zz:Row × Row)=>Nat.gcd zz.1.val zz.2.val = Nat.gcd a.val b.val /\ osl zz.2 = digits zz.2.val /\ (zz.2.val ≠ 0 -> zz.2 = rowN zz.2.val) /\ (zz.2.val = 0 -> zz.1 = rowN zz.1.val) /\ (osl zz.1).length <= 80000000 /\ (osl zz.2).length <= 80000000) (fun (zz:Row × Row)=>zz.2.val) (s,trimR b) ?hI1 (Fgt.head (Nat.le_refl _) [true,true,false,false,true] ?hT1 ?hH1) ?hB1
 case hT1=>first | (simp (disch:=omega) only [hds,liveT,cleanAV,cleanCell,clean1,cleanBlk,reduceIte,iS,iA,iN];done) | rfl
 case hH1=>first | (simp (disch:=omega) only [hds,liveT,cleanAV,cleanCell,clean1,cleanBlk,reduceIte,iS,iA,iN];done) | rfl
 ·dsimp only
  exact ⟨by rw [hva,hvb],by rw [hvb];exact hsb,fun _=>by rw [hvb];exact hrb,fun h=>absurd (hvb ▸ h) h0,by omega,by omega⟩
 rintro ⟨A,B⟩ ⟨hg,hB,hB1,hB2,hlA,hlB⟩
 dsimp only at hg hB hB1 hB2 hlA hlB
 by_cases hz:B.val = 0
 ·have hl:(osl B).length = 0:=by rw [hB,hz,digits_zero];rfl
  repeat (first | (with_reducible first | refine Way.imp ?_ | refine blk_o rfl ?_) | ((with_reducible refine WayR.imp (fun K hK=>?_));simp (disch:=first | omega | (simp only [dls];omega)) only [std,reduceIte,reduceCtorEq,iT,nA,nS,nM,iA,iS,iM,iN,fU];subst hK))
  refine ⟨_,rfl,?_⟩
  rw [hz,Nat.gcd_zero_right] at hg
  rw [<- hg,<- hB2 hz]
  exact rfl
 ·have hl:(osl B).length ≠ 0:=by rw [hB];exact Nat.ne_of_gt (digits_len_pos hz)
  have hdm:=divmod_C A B (by omega) (by omega) hz
  have hmod:=Nat.mod_lt A.val (Nat.pos_of_ne_zero hz)
  obtain ⟨R,hR⟩:∃ R:Row,(if A.val = 0 then none else rowN (A.val % B.val)) = R:=⟨_,rfl⟩
  rw [hR] at hdm
  have hRv:R.val = A.val % B.val:=by
   rw [<- hR];split
   ·rename_i h;rw [h,Nat.zero_mod];rfl
   ·exact rowN_val _
  have hRd:osl R = digits R.val:=by
   rw [hRv,<- hR];split
   ·rename_i h;rw [h,Nat.zero_mod,digits_zero];rfl
   ·rfl
  have hR1:R.val ≠ 0 -> R = rowN R.val:=fun h=>by
   rw [hRv,<- hR]
   rw [if_neg]
   intro h2;apply h;rw [hRv,h2,Nat.zero_mod]
  repeat (first | (with_reducible first | refine Way.imp ?_ | refine blk_o rfl ?_) | ((with_reducible refine WayR.imp (fun K hK=>?_));simp (disch:=first | omega | (simp only [dls];omega)) only [std,reduceIte,reduceCtorEq,iT,nA,nS,nM,iA,iS,iM,iN,fU];subst hK) | refine zcA (hdm) rfl rfl rfl ?_)
  refine ⟨(B,R),?hI2,?hM2,Fgt.head (Nat.le_refl _) [true,true,false,false,true] ?hT2 ?hH2⟩
  case hT2=>first | (simp (disch:=omega) only [hds,liveT,cleanAV,cleanCell,clean1,cleanBlk,reduceIte,iS,iA,iN];done) | rfl
  case hH2=>first | (simp (disch:=omega) only [hds,liveT,cleanAV,cleanCell,clean1,cleanBlk,reduceIte,iS,iA,iN];done) | rfl
  ·dsimp only
   refine ⟨by rw [hRv,gcd_step,hg],hRd,hR1,fun _=>hB1 hz,hlB,?_⟩
   rw [hRd,hRv]
   have:=digits_len_mono (Nat.le_of_lt hmod)
   rw [<- hB] at this
   omega
  ·dsimp only;omega
end Go.Proofs.Ytncgbjhojbnecaa
